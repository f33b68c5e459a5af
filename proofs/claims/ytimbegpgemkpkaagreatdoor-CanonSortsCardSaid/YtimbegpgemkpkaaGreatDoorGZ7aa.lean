import Derived.Deep.RegionHeld3
import Derived.Test.YtimbegpgemkpkaaGreatDoorProg
import Derived.WalkSpells
import Derived.WalkLawsBesides
import Derived.BigQuiet
import Derived.Lib.Hide
import Derived.Deep.AppendLies
import Derived.Laws.CopyOwn
import Derived.Great.BuildSlice
import Derived.RangeFuncFrom
import Derived.Deep.DeepCutAuto
import Derived.StillTailTactics
set_option linter.unusedVariables false
set_option linter.unusedSimpArgs false
set_option maxHeartbeats 64000000
set_option maxRecDepth 100000
namespace Go.Proofs.YtimbegpgemkpkaaGreatDoor
open Go.Proofs.Tryz
abbrev ge(a b:World):Prop:=Go.RowKit.Below a.heap.size a b
abbrev nl(g:Nat):Addr:=⟨g,0,none⟩
abbrev no(g i:Nat):Addr:=⟨g,i,none⟩
instance:Coe Int Value:=⟨fun z=>.int .i64 z⟩
instance:Coe ByteArray Value:=⟨fun z=>.string z⟩
instance:Coe Bool Value:=⟨fun z=>.bool z⟩
instance:Coe Unit Value:=⟨fun _=>.slice none 0 0⟩
theorem NA{p q:Prop}(a:p)(b:q):Go.RowKit.Hid (p/\q):=⟨a,b⟩
theorem NB{p q r:Prop}(a:p)(b:q)(c:r):Go.RowKit.Hid (p/\q/\r):=⟨a,b,c⟩
theorem x7{p q r s:Prop}(a:p)(b:q)(c:r)(d:s):Go.RowKit.Hid (p/\q/\r/\s):=⟨a,b,c,d⟩
theorem x8{p q r s t:Prop}(a:p)(b:q)(c:r)(d:s)(e:t):Go.RowKit.Hid (p/\q/\r/\s/\t):=⟨a,b,c,d,e⟩
theorem x9{p q r s t u:Prop}(a:p)(b:q)(c:r)(d:s)(e:t)(f:u):Go.RowKit.Hid (p/\q/\r/\s/\t/\u):=⟨a,b,c,d,e,f⟩
abbrev y4(v:Value)(w:World)(e:Ending)(w':World):Prop:=e=.returned v/\ge w w'
theorem y5{P:Program}{ops:Array Oper}{Q:Exit->Act->World->Prop}{md:Region.Mode}{S:World->Prop}{f:Nat}{l:Array Bool}{a:Act}{w:World}(h:Q .normal a w)(hr:Region.ready md ops l=[]:=by kernel_rfl):wpAnyH P md ops (NoPanic Q) S f l a w:=wpAnyH_done hr (NoPanic.normal h) _
instance:Coe Value Ending:=⟨fun v=>.returned v⟩
abbrev y6(t:Nat)(x:Value)(v u:Nat)(a:Value)(b:Bool)(W:World):Prop:=(Instr.typeAssert (.iface t x) v u true).run prog W=.ok (.tuple #[a,.bool b]) W
theorem y7{α:Sort _}(a:α):∃b,a=b:=⟨a,rfl⟩
theorem y8{α:Type}(l:List α)(i:Nat)(h:i<l.length:=by omega):∃u,l[i]?=some u:=⟨_,List.getElem?_eq_getElem h⟩
theorem y9(z:Int)(h:-9223372036854775808<=z/\z<=9223372036854775807:=by omega):IntKind.i64.wrap z=z:=Go.IntWalk.i64_in z (by omega)
theorem NC(z u:Int)(k:z=u:=by omega)(h:-9223372036854775808<=z/\z<=9223372036854775807:=by omega):IntKind.i64.wrap z=u:=(y9 z h).trans k
abbrev Na:=List UInt8
abbrev Nb:=List Value
abbrev OA:=Option Addr
abbrev Nc:=ByteArray
abbrev Wd:=World
abbrev Zb:= @Nat.le_refl
abbrev Zc:= @Nat.le_trans
abbrev Zd:= @List.getElem?_eq_getElem
abbrev Ze:= @Go.RowKit.Below.refl
abbrev Zf:= @heap_alloc_new
abbrev Zg:= @cell_later
abbrev Zh:= @bodyPost_ret
abbrev Zi:= @Option.some.inj
abbrev Zj:= @Nat.le_of_lt
abbrev Zk:= @Nat.zero_le
abbrev Zl:= @List.mem_of_getElem?
abbrev Zm:= @List.mem_cons_of_mem
variable {args cells cs cur old:Array Value}{fill:Int}{ns:List Nc}{xs ys:Na}{news us:Nb}{B base base' c cap fuel g i id m n o p:Nat}{P Q:Nat->Prop}{A:OA}{e ty:TypeId}{T:TypeId->Prop}{u v v' v1 v2 v3 vk vk' vn z:Value}{W W' W2 w w' w0 w1:Wd}
theorem Za {P:Go.Program}{f:Go.FuncId}{a:Array Go.Value}{w:Go.World}{R R':Go.Ending->Go.World->Prop}(h:Go.RowKit.Hid (Go.Calls P f a w R))(k:∀e w',R e w'->R' e w'):Go.Calls P f a w R':=Go.Calls.mono h k
theorem Qa {p:Prop}(h:p):Go.RowKit.Hid p:=h
section
variable {P:Program}{ops:Array Oper}{Q:Exit->Act->Wd->Prop}{md:Region.Mode}{S:Wd->Prop}{z:Nat}
def cj (P:Program)(md:Region.Mode)(ops:Array Oper)(Q:Exit->Act->Wd->Prop)(S:Wd->Prop)(z:Nat):Nat->Array Bool->Act->Wd->Prop
 |0,listed,a,w=>Region.ready md ops listed = []/\Q .normal a w
 |fuel+1,listed,a,w=>
  (Region.ready md ops listed = []->Q .normal a w)/\
  ∀i∈Region.ready md ops listed,wpOp P ops Q i (fun a' w'=>(i≠z->S w')/\cj P md ops Q S z fuel (listed.setIfInBounds i true) a' w') a w
theorem qj:∀ (fuel:Nat) (listed:Array Bool) (a:Act) (w:Wd),cj P md ops Q S z fuel listed a w->wpAny P md ops Q fuel listed a w
 |0,_,_,_,h=>h
 |fuel+1,_,_,_,h=>⟨h.1,fun i hi=>wpOp_mono (fun a' w' h'=>qj fuel _ a' w' h'.2) (h.2 i hi)⟩
def dt (md:Region.Mode)(ops:Array Oper)(z i:Nat):Bool:=match ops[z]? with
 |some oz=>oz.after.any (fun e=>e.on==i&&Region.binds md e)
 |none=>false
theorem dC {listed:Array Bool}(h:dt md ops z i=true)(hl:listed.getD i true=false):z∉Region.ready md ops listed:=fun hz=>by
 obtain⟨_,oz,a1,a0⟩:=mem_ready.1 hz;unfold dt at h;rw[a1] at h;obtain⟨e,he,hb⟩:=Array.any_eq_true'.1 h;simp only[Bool.and_eq_true,beq_iff_eq] at hb;have h1:=a0 e he hb.2;rw[hb.1] at h1;rcases Nat.lt_or_ge i listed.size with h'|h'
 .simp[h'] at hl h1;rw[hl] at h1;cases h1
 .simp[Array.getElem?_eq_none h'] at h1
theorem tL {oi:Oper}(hi:ops[i]?=some oi)(a3:∀ (j:Nat) (o:Oper) cs b,ops[j]?=some o->o.op≠ .select cs b)
  (hQ:∀c a w,Q (.panic c) (a.put oi.dst v) w->Q (.panic c) a w) (hz:dt md ops z i=true) :
  ∀ (fuel:Nat) (listed:Array Bool) (a:Act) (w:Wd),
   (∀j oj,ops[j]?=some oj->j≠i->listed.getD j true=false->(∀e∈oj.after,Region.binds md e=true->e.on≠i)->oi.apart ops oj=true)->
   i∈Region.ready md ops listed->YieldsIf P ops S oi v a->S w->
   cj P md ops Q S z fuel (listed.setIfInBounds i true) (a.put oi.dst v) w->cj P md ops Q S z (fuel+1) listed a w:=by
 intro fuel
 induction fuel with
 |zero=>
  intro listed a w _ hr hy hS H;refine⟨fun h=>(by rw[h] at hr;cases hr),fun j hj=>?_⟩
  by_cases hji:j=i
  .subst hji;exact hy.wpOp hi hS ⟨fun _=>hS,H⟩
  .have:=ready_mono hj hji;rw[H.1] at this
   cases this
 |succ fuel ih=>
  intro listed a w a0 hr hy hS H;refine⟨fun h=>(by rw[h] at hr;cases hr),fun j hj=>?_⟩
  by_cases hji:j=i
  .subst hji;exact hy.wpOp hi hS ⟨fun _=>hS,H⟩
  .have a9:j≠z:=fun e=>dC hz (mem_ready.1 hr).1 (e▸hj)
   have h1:=H.2 j (ready_mono hj hji);obtain⟨a2,oj,a5,a6⟩:=mem_ready.1 hj;have a4:∀e∈oj.after,Region.binds md e=true->e.on≠i:=fun e he hb heq=>by
    have h1:=a6 e he hb;have h0:=(mem_ready.1 hr).1;rw[heq] at h1;rcases Nat.lt_or_ge i listed.size with h'|h'
    .simp[h'] at h0 h1;rw[h0] at h1;cases h1
    .simp[Array.getElem?_eq_none h'] at h1
   have h2:=wpOp_putIf a5 (a0 j oj a5 hji a2 a4) (fun cs b=>a3 i oi cs b hi) (fun cs b=>a3 j oj cs b a5) hQ hy h1;have a1:∀k ok,ops[k]?=some ok->k≠i->(listed.setIfInBounds j true).getD k true=false->
     (∀e∈ok.after,Region.binds md e=true->e.on≠i)->oi.apart ops ok=true:=fun k ok hk hki a7 b0=>by
    refine a0 k ok hk hki ?_ b0
    by_cases hjk:j=k
    .subst hjk;exact a2
    .rw[getD_set_ne true hjk] at a7;exact a7
   refine wpOp_mono (fun a' w' h3=>⟨fun _=>h3.2.1 a9,ih (listed.setIfInBounds j true) a' w' a1 (ready_mono hr (Ne.symm hji)) h3.1 (h3.2.1 a9) ?_⟩) h2;rw[Array.setIfInBounds_comm _ _ hji];exact h3.2.2
theorem xE {oi:Oper}{listed:Array Bool}{a:Act}(hi:ops[i]?=some oi)
  (hs:Region.noSelect ops=true) (hf:Region.free md ops listed i=true) (hr:(Region.ready md ops listed).contains i=true) (hz:dt md ops z i=true)
  (hQ:∀c a w,Q (.panic c) (a.put oi.dst v) w->Q (.panic c) a w) (hy:YieldsIf P ops S oi v a) (hS:S w)
  (h:cj P md ops Q S z fuel (listed.setIfInBounds i true) (a.put oi.dst v) w):cj P md ops Q S z (fuel+1) listed a w:=
 tL hi (Region.noSelect_spec hs) hQ hz fuel listed a w (Region.free_spec hi hf) (by simpa using hr) hy hS h
theorem AD {o:Oper}{listed:Array Bool}{a:Act}(hr:Region.ready md ops listed = [i])(ho:ops[i]?=some o)
  (h:∀K':Act->Wd->Prop,Shut (∀a w,(i≠z->S w)->((i≠z->S w)->cj P md ops Q S z fuel (listed.setIfInBounds i true) a w)->K' a w)->if Region.wanted o (yielded ops a.tmps)=true then Oper.wp P o a w K' Q else K' (a.put o.dst undef) w) :
  cj P md ops Q S z (fuel+1) listed a w:=by
 refine⟨fun h0=>(by rw[hr] at h0;cases h0),fun j hj=>?_⟩;rw[hr] at hj;have hj:=List.mem_singleton.1 hj;subst hj;exact wpOp_step ho (fun K' hK=>h K' (fun a w hS hW=>hK a w ⟨hS,hW hS⟩))
theorem aR {listed:Array Bool}{a:Act}(hr:Region.ready md ops listed = [])(h:Q .normal a w) :
  ∀fuel,cj P md ops Q S z fuel listed a w
 |0=>⟨hr,h⟩
 |_+1=>⟨fun _=>h,by rw[hr];simp⟩
theorem vA {a:Act}(hm:P.follows .mixedOrders=true)(z:Nat)(hS:S w.drew)
  (h:S w.drew->cj P .any ops Q S z ops.size (Array.replicate ops.size false) a w.drew):(Code.region id ops true).wp P Q a w:=
 wp_region_any hm (qj _ _ _ _ (h hS))
end
section
variable {P:Program}{ops:Array Oper}{Q:Exit->Act->Wd->Prop}{md:Region.Mode}{S:Wd->Prop}{z:Nat}
def gK (md:Region.Mode)(ops:Array Oper):Nat->Nat->Nat->Bool
 |0,m,i=>dt md ops m i
 |n+1,m,i=>dt md ops m i||(List.range ops.size).any (fun k=>dt md ops m k&&gK md ops n k i)
def Iu (md:Region.Mode)(ops:Array Oper)(listed:Array Bool):Prop:=listed.size=ops.size/\∀m i,m<ops.size->dt md ops m i=true->listed.getD i true=false->listed.getD m true=false
def zf (md:Region.Mode)(ops:Array Oper)(listed:Array Bool):Bool:=listed.size==ops.size&& (List.range ops.size).all (fun m=>(List.range ops.size).all (fun i=> !(dt md ops m i)||listed.getD i true||!(listed.getD m true)))
theorem Iu.of {listed:Array Bool}(h:zf md ops listed=true):Iu md ops listed:=by
 unfold zf at h;simp only[Bool.and_eq_true,beq_iff_eq,List.all_eq_true,List.mem_range,Bool.or_eq_true,Bool.not_eq_true'] at h;refine⟨h.1,fun m i hm hw hi=>?_⟩
 by_cases hs:i<ops.size
 .rcases h.2 m hm i hs with (h1|h1)|h1
  .rw[hw] at h1;cases h1
  .rw[hi] at h1;cases h1
  .exact h1
 .have a0:listed.size<=i:=by omega
  simp[Array.getElem?_eq_none a0] at hi
theorem pm (h:dt md ops m i=true):m<ops.size:=by
 unfold dt at h
 cases hm:ops[m]? with
 |none=>rw[hm] at h;cases h
 |some o=>exact(Array.getElem?_eq_some_iff.1 hm).1
theorem Iu.set {listed:Array Bool}{j:Nat}(h:Iu md ops listed)(hj:j∈Region.ready md ops listed):Iu md ops (listed.setIfInBounds j true):=by
 refine⟨by rw[Array.size_setIfInBounds];exact h.1,fun m i hm hw hi=>?_⟩;have hji:j≠i:=by
  intro e;subst e
  by_cases hs:j<listed.size
  .simp[hs] at hi
  .simp[hs] at hi
 rw[getD_set_ne true hji] at hi;have a0:j≠m:=by
  intro e;subst e;exact dC hw hi hj
 rw[getD_set_ne true a0];exact h.2 m i hm hw hi
theorem jZ {listed:Array Bool}(hc:Iu md ops listed)(hi:listed.getD i true=false):∀ (n m:Nat),gK md ops n m i=true->listed.getD m true=false
 |0,m,h=>hc.2 m i (pm h) h hi
 |n+1,m,h=>by
  unfold gK at h;rcases Bool.or_eq_true _ _▸h with h|h
  .exact hc.2 m i (pm h) h hi
  .obtain⟨k,hk,h2⟩:=List.any_eq_true.1 h;rw[Bool.and_eq_true] at h2;exact hc.2 m k (pm h2.1) h2.1 (jZ hc hi n k h2.2)
theorem nV {listed:Array Bool}(hc:Iu md ops listed)(hi:listed.getD i true=false)(h:gK md ops n z i=true):z∉Region.ready md ops listed:=by
 cases n with
 |zero=>exact dC h hi
 |succ n=>
  unfold gK at h;rcases Bool.or_eq_true _ _▸h with h|h
  .exact dC h hi
  .obtain⟨k,hk,h2⟩:=List.any_eq_true.1 h;rw[Bool.and_eq_true] at h2;exact dC h2.1 (jZ hc hi n k h2.2)
theorem tK {oi:Oper}(hi:ops[i]?=some oi)(a3:∀ (j:Nat) (o:Oper) cs b,ops[j]?=some o->o.op≠ .select cs b)
  (hQ:∀c a w,Q (.panic c) (a.put oi.dst v) w->Q (.panic c) a w) (hz:gK md ops n z i=true) :
  ∀ (fuel:Nat) (listed:Array Bool) (a:Act) (w:Wd),Iu md ops listed->
   (∀j oj,ops[j]?=some oj->j≠i->listed.getD j true=false->(∀e∈oj.after,Region.binds md e=true->e.on≠i)->oi.apart ops oj=true)->
   i∈Region.ready md ops listed->YieldsIf P ops S oi v a->S w->
   cj P md ops Q S z fuel (listed.setIfInBounds i true) (a.put oi.dst v) w->cj P md ops Q S z (fuel+1) listed a w:=by
 intro fuel
 induction fuel with
 |zero=>
  intro listed a w _ _ hr hy hS H;refine⟨fun h=>(by rw[h] at hr;cases hr),fun j hj=>?_⟩
  by_cases hji:j=i
  .subst hji;exact hy.wpOp hi hS ⟨fun _=>hS,H⟩
  .have:=ready_mono hj hji;rw[H.1] at this
   cases this
 |succ fuel ih=>
  intro listed a w hc a0 hr hy hS H;refine⟨fun h=>(by rw[h] at hr;cases hr),fun j hj=>?_⟩
  by_cases hji:j=i
  .subst hji;exact hy.wpOp hi hS ⟨fun _=>hS,H⟩
  .have a9:j≠z:=fun e=>nV hc (mem_ready.1 hr).1 hz (e▸hj)
   have h1:=H.2 j (ready_mono hj hji);obtain⟨a2,oj,a5,a6⟩:=mem_ready.1 hj;have a4:∀e∈oj.after,Region.binds md e=true->e.on≠i:=fun e he hb heq=>by
    have h1:=a6 e he hb;have h0:=(mem_ready.1 hr).1;rw[heq] at h1;rcases Nat.lt_or_ge i listed.size with h'|h'
    .simp[h'] at h0 h1;rw[h0] at h1;cases h1
    .simp[Array.getElem?_eq_none h'] at h1
   have h2:=wpOp_putIf a5 (a0 j oj a5 hji a2 a4) (fun cs b=>a3 i oi cs b hi) (fun cs b=>a3 j oj cs b a5) hQ hy h1;have a1:∀k ok,ops[k]?=some ok->k≠i->(listed.setIfInBounds j true).getD k true=false->
     (∀e∈ok.after,Region.binds md e=true->e.on≠i)->oi.apart ops ok=true:=fun k ok hk hki a7 b0=>by
    refine a0 k ok hk hki ?_ b0
    by_cases hjk:j=k
    .subst hjk;exact a2
    .rw[getD_set_ne true hjk] at a7;exact a7
   refine wpOp_mono (fun a' w' h3=>⟨fun _=>h3.2.1 a9,ih (listed.setIfInBounds j true) a' w' (hc.set hj) a1 (ready_mono hr (Ne.symm hji)) h3.1 (h3.2.1 a9) ?_⟩) h2;rw[Array.setIfInBounds_comm _ _ hji];exact h3.2.2
theorem wg (n:Nat){oi:Oper}{listed:Array Bool}{a:Act}(hi:ops[i]?=some oi)
  (hs:Region.noSelect ops=true) (hf:Region.free md ops listed i=true) (hr:(Region.ready md ops listed).contains i=true) (hz:gK md ops n z i=true) (hc:zf md ops listed=true)
  (hQ:∀c a w,Q (.panic c) (a.put oi.dst v) w->Q (.panic c) a w) (hy:YieldsIf P ops S oi v a) (hS:S w)
  (h:cj P md ops Q S z fuel (listed.setIfInBounds i true) (a.put oi.dst v) w):cj P md ops Q S z (fuel+1) listed a w:=
 tK hi (Region.noSelect_spec hs) hQ hz fuel listed a w (Iu.of hc) (Region.free_spec hi hf) (by simpa using hr) hy hS h
end
theorem jP {α:Type}{xs:List α}{a:α}:xs.toArray.setIfInBounds i a= (xs.set i a).toArray:=List.setIfInBounds_toArray ..
theorem jQ {α:Type}{xs:List α}{a b:α}:(a::xs).set 0 b=b::xs:=List.set_cons_zero
theorem jR {α:Type}{xs:List α}{a b:α}:(a::xs).set (n+1) b=a::xs.set n b:=List.set_cons_succ
section
variable {P:Program}{ops:Array Oper}{Q:Exit->Act->Wd->Prop}{md:Region.Mode}{S:Wd->Prop}
theorem pk {o:Oper}(h:(ops.toList.drop i).head?=some o):ops[i]?=some o:=by
 rw[List.head?_drop] at h;rw[<-Array.getElem?_toList];exact h
def De (P:Program)(ops:Array Oper)(Q:Exit->Act->Wd->Prop)(md:Region.Mode)(S:Wd->Prop)(l:Array Bool)(a:Act)(i:Nat)(o:Oper)(v:Value)(a':Act):Prop:=(ops.toList.drop i).head?=some o/\Region.noSelect ops=true/\Region.free md ops l i=true/\(Region.ready md ops l).contains i=true/\(∀c a w,Q (.panic c) (a.put o.dst v) w->Q (.panic c) a w)/\Region.wanted o (yielded ops a.tmps)=true/\(∀w,S w->(execOp a.eval o).run P w =.ok (.value v) w)/\a.put o.dst v=a'
theorem tH (i:Nat){oi:Oper}{listed:Array Bool}{a a':Act}(hS:S w)(h:wpAnyH P md ops Q S fuel (listed.setIfInBounds i true) a' w)(s:De P ops Q md S listed a i oi v a':=by exact⟨by exact rfl,by kernel_rfl,by kernel_rfl,by kernel_rfl,by exact fun _ _ _ h=>h,by rfl,by(intro w a0;(try dsimp only at a0);go_simp;(try with_reducible rfl)),by(simp only[Act.put,jP,jQ,jR];exact rfl)⟩):wpAnyH P md ops Q S (fuel+1) listed a w:=by
 obtain⟨hi,hs,hf,hr,hQ,hg,hy,rfl⟩:=s;exact wpAnyH_take (pk hi) hs hf hr hQ (Or.inl ⟨hg,hy⟩) hS h
theorem bw (i j k:Nat){o1 o2 o3:Oper}{listed:Array Bool}{a a1 a2 a3:Act}(hS:S w)(h:wpAnyH P md ops Q S fuel (((listed.setIfInBounds i true).setIfInBounds j true).setIfInBounds k true) a3 w)(s:De P ops Q md S listed a i o1 v1 a1:=by exact⟨by exact rfl,by kernel_rfl,by kernel_rfl,by kernel_rfl,by exact fun _ _ _ h=>h,by rfl,by(intro w a0;(try dsimp only at a0);go_simp;(try with_reducible rfl)),by(simp only[Act.put,jP,jQ,jR];exact rfl)⟩)(s2:De P ops Q md S (listed.setIfInBounds i true) a1 j o2 v2 a2:=by exact⟨by exact rfl,by kernel_rfl,by kernel_rfl,by kernel_rfl,by exact fun _ _ _ h=>h,by rfl,by(intro w a0;(try dsimp only at a0);go_simp;(try with_reducible rfl)),by(simp only[Act.put,jP,jQ,jR];exact rfl)⟩)(s3:De P ops Q md S ((listed.setIfInBounds i true).setIfInBounds j true) a2 k o3 v3 a3:=by exact⟨by exact rfl,by kernel_rfl,by kernel_rfl,by kernel_rfl,by exact fun _ _ _ h=>h,by rfl,by(intro w a0;(try dsimp only at a0);go_simp;(try with_reducible rfl)),by(simp only[Act.put,jP,jQ,jR];exact rfl)⟩):wpAnyH P md ops Q S (fuel+1+1+1) listed a w:=
 tH i hS (tH j hS (tH k hS h s3) s2) s
theorem uH (i:Nat){oi:Oper}{listed:Array Bool}{a:Act}(hS:S w)(h:wpAnyH P md ops Q S fuel (listed.setIfInBounds i true) (a.put oi.dst undef) w)
  (hi:(ops.toList.drop i).head?=some oi:=by exact rfl) (hs:Region.noSelect ops=true:=by kernel_rfl) (hf:Region.free md ops listed i=true:=by kernel_rfl) (hr:(Region.ready md ops listed).contains i=true:=by kernel_rfl)
  (hQ:∀c a w,Q (.panic c) (a.put oi.dst undef) w->Q (.panic c) a w:=by exact fun _ _ _ h=>h) (hg:Region.wanted oi (yielded ops a.tmps)=false:=by rfl):wpAnyH P md ops Q S (fuel+1) listed a w:=
 wpAnyH_take (pk hi) hs hf hr hQ (Or.inr ⟨hg,rfl⟩) hS h
theorem rH (i:Nat){o:Oper}{listed:Array Bool}{a:Act}
  (h:∀K':Act->Wd->Prop,Shut (∀a w,S w->(S w->wpAnyH P md ops Q S fuel (listed.setIfInBounds i true) a w)->K' a w)->if Region.wanted o (yielded ops a.tmps)=true then Oper.wp P o a w K' Q else K' (a.put o.dst undef) w)
  (ho:(ops.toList.drop i).head?=some o:=by exact rfl) (hr:Region.ready md ops listed = [i]:=by kernel_rfl):wpAnyH P md ops Q S (fuel+1) listed a w:=
 wpAnyH_ready hr (by simp) (AllReadyH.cons (pk ho) h AllReadyH.nil)
theorem tZ (i:Nat){z:Nat}{oi:Oper}{listed:Array Bool}{a a':Act}(hS:S w)(h:cj P md ops Q S z fuel (listed.setIfInBounds i true) a' w)(s:De P ops Q md S listed a i oi v a':=by exact⟨by exact rfl,by kernel_rfl,by kernel_rfl,by kernel_rfl,by exact fun _ _ _ h=>h,by rfl,by(intro w a0;(try dsimp only at a0);go_simp;(try with_reducible rfl)),by(simp only[Act.put,jP,jQ,jR];exact rfl)⟩)(hz:dt md ops z i=true/\dt md ops z i=true:=by exact⟨by kernel_rfl,by kernel_rfl⟩):cj P md ops Q S z (fuel+1) listed a w:=by
 obtain⟨hi,hs,hf,hr,hQ,hg,hy,rfl⟩:=s;exact xE (pk hi) hs hf hr hz.1 hQ (Or.inl ⟨hg,hy⟩) hS h
theorem iz (i j k:Nat){z:Nat}{o1 o2 o3:Oper}{listed:Array Bool}{a a1 a2 a3:Act}(hS:S w)(h:cj P md ops Q S z fuel (((listed.setIfInBounds i true).setIfInBounds j true).setIfInBounds k true) a3 w)(s:De P ops Q md S listed a i o1 v1 a1:=by exact⟨by exact rfl,by kernel_rfl,by kernel_rfl,by kernel_rfl,by exact fun _ _ _ h=>h,by rfl,by(intro w a0;(try dsimp only at a0);go_simp;(try with_reducible rfl)),by(simp only[Act.put,jP,jQ,jR];exact rfl)⟩)(s2:De P ops Q md S (listed.setIfInBounds i true) a1 j o2 v2 a2:=by exact⟨by exact rfl,by kernel_rfl,by kernel_rfl,by kernel_rfl,by exact fun _ _ _ h=>h,by rfl,by(intro w a0;(try dsimp only at a0);go_simp;(try with_reducible rfl)),by(simp only[Act.put,jP,jQ,jR];exact rfl)⟩)(s3:De P ops Q md S ((listed.setIfInBounds i true).setIfInBounds j true) a2 k o3 v3 a3:=by exact⟨by exact rfl,by kernel_rfl,by kernel_rfl,by kernel_rfl,by exact fun _ _ _ h=>h,by rfl,by(intro w a0;(try dsimp only at a0);go_simp;(try with_reducible rfl)),by(simp only[Act.put,jP,jQ,jR];exact rfl)⟩)(hz:dt md ops z i=true/\dt md ops z i=true:=by exact⟨by kernel_rfl,by kernel_rfl⟩)(a4:dt md ops z j=true/\dt md ops z j=true:=by exact⟨by kernel_rfl,by kernel_rfl⟩)(a5:dt md ops z k=true/\dt md ops z k=true:=by exact⟨by kernel_rfl,by kernel_rfl⟩):cj P md ops Q S z (fuel+1+1+1) listed a w:=
 tZ i hS (tZ j hS (tZ k hS h s3 a5) s2 a4) s hz
theorem tR (i:Nat){z:Nat}{oi:Oper}{listed:Array Bool}{a a':Act}(hS:S w)(h:cj P md ops Q S z fuel (listed.setIfInBounds i true) a' w)(s:De P ops Q md S listed a i oi v a':=by exact⟨by exact rfl,by kernel_rfl,by kernel_rfl,by kernel_rfl,by exact fun _ _ _ h=>h,by rfl,by(intro w a0;(try dsimp only at a0);go_simp;(try with_reducible rfl)),by(simp only[Act.put,jP,jQ,jR];exact rfl)⟩)(hz:gK md ops 6 z i=true/\zf md ops listed=true:=by exact⟨by kernel_rfl,by kernel_rfl⟩):cj P md ops Q S z (fuel+1) listed a w:=by
 obtain⟨hi,hs,hf,hr,hQ,hg,hy,rfl⟩:=s;exact wg 6 (pk hi) hs hf hr hz.1 hz.2 hQ (Or.inl ⟨hg,hy⟩) hS h
theorem nD (i j k:Nat){z:Nat}{o1 o2 o3:Oper}{listed:Array Bool}{a a1 a2 a3:Act}(hS:S w)(h:cj P md ops Q S z fuel (((listed.setIfInBounds i true).setIfInBounds j true).setIfInBounds k true) a3 w)(s:De P ops Q md S listed a i o1 v1 a1:=by exact⟨by exact rfl,by kernel_rfl,by kernel_rfl,by kernel_rfl,by exact fun _ _ _ h=>h,by rfl,by(intro w a0;(try dsimp only at a0);go_simp;(try with_reducible rfl)),by(simp only[Act.put,jP,jQ,jR];exact rfl)⟩)(s2:De P ops Q md S (listed.setIfInBounds i true) a1 j o2 v2 a2:=by exact⟨by exact rfl,by kernel_rfl,by kernel_rfl,by kernel_rfl,by exact fun _ _ _ h=>h,by rfl,by(intro w a0;(try dsimp only at a0);go_simp;(try with_reducible rfl)),by(simp only[Act.put,jP,jQ,jR];exact rfl)⟩)(s3:De P ops Q md S ((listed.setIfInBounds i true).setIfInBounds j true) a2 k o3 v3 a3:=by exact⟨by exact rfl,by kernel_rfl,by kernel_rfl,by kernel_rfl,by exact fun _ _ _ h=>h,by rfl,by(intro w a0;(try dsimp only at a0);go_simp;(try with_reducible rfl)),by(simp only[Act.put,jP,jQ,jR];exact rfl)⟩)(hz:gK md ops 6 z i=true/\zf md ops listed=true:=by exact⟨by kernel_rfl,by kernel_rfl⟩)(a4:gK md ops 6 z j=true/\zf md ops (listed.setIfInBounds i true)=true:=by exact⟨by kernel_rfl,by kernel_rfl⟩)(a5:gK md ops 6 z k=true/\zf md ops ((listed.setIfInBounds i true).setIfInBounds j true)=true:=by exact⟨by kernel_rfl,by kernel_rfl⟩):cj P md ops Q S z (fuel+1+1+1) listed a w:=
 tR i hS (tR j hS (tR k hS h s3 a5) s2 a4) s hz
theorem rZ (i:Nat){z:Nat}{o:Oper}{listed:Array Bool}{a:Act}
  (h:∀K':Act->Wd->Prop,Shut (∀a w,(i≠z->S w)->((i≠z->S w)->cj P md ops Q S z fuel (listed.setIfInBounds i true) a w)->K' a w)->if Region.wanted o (yielded ops a.tmps)=true then Oper.wp P o a w K' Q else K' (a.put o.dst undef) w)
  (ho:(ops.toList.drop i).head?=some o:=by exact rfl) (hr:Region.ready md ops listed = [i]:=by kernel_rfl):cj P md ops Q S z (fuel+1) listed a w:=
 AD hr (pk ho) h
theorem aI {a:Act}(S:Wd->Prop)(hS:S w.drew)(h:S w.drew->wpAnyH P .any ops (NoPanic Q) S ops.size (Array.replicate ops.size false) a w.drew)(hm:P.follows .mixedOrders=true:=by kernel_rfl):(Code.region id ops true).wp P Q a w:=
 wp_region_noPanic (wp_region_held_drew hm hS h)
theorem cJ {a:Act}(S:Wd->Prop)(z:Nat)(hS:S w.drew)(h:S w.drew->cj P .any ops (NoPanic Q) S z ops.size (Array.replicate ops.size false) a w.drew)(hm:P.follows .mixedOrders=true:=by kernel_rfl):(Code.region id ops true).wp P Q a w:=
 wp_region_noPanic (vA hm z hS h)
end
end Go.Proofs.YtimbegpgemkpkaaGreatDoor
namespace Go.Proofs.YtimbegpgemkpkaaGreatDoor
open Go.Proofs.Tryz
open Go.RowKit
variable {args cells cs cur old:Array Value}{fill:Int}{ns:List Nc}{xs ys:Na}{news us:Nb}{B base base' c cap fuel g i id m n o p:Nat}{P Q:Nat->Prop}{A:OA}{e ty:TypeId}{T:TypeId->Prop}{u v v' v1 v2 v3 vk vk' vn z:Value}{W W' W2 w w' w0 w1:Wd}
def eB (x:Int):Bool:=bits .and .u8 x 192==128
def dU (x y:Int):Bool:=
 if x=224 then decide (160<=y)&&decide (y<=191) else if x=237 then decide (128<=y)&&decide (y<=159)
 else if x=240 then decide (144<=y)&&decide (y<=191) else if x=244 then decide (128<=y)&&decide (y<=143) else eB y
def fK:List Int:= [1,1,1,1,1,1,1,1,0,0,0,0,2,2,3,4]
def bu (x:Int):Int:=if x=192\/x=193\/244<x then -1 else fK.getD (x/16).toNat 0
theorem df {P:Program}{f:FuncId}{a:Nat}
  (h:Calls P f args (w.drewN (a+n)) fun e w'=>e =.returned v/\w.drewN (a+n)=w') :
  Calls P f args (w.drewN (a+n)) fun e w''=>e =.returned v/\∃m,w''=w.drewN (a+m):=
 h.mono fun _ _ ⟨he,hm⟩=>⟨he,n,hm.symm⟩
theorem bP {a b:Bool}(h:a=b):Ending.returned (.bool a) =.returned (.bool b):=by rw[h]
theorem AY {k:IntKind}{a b:Int}(h:a=b):Ending.returned (.int k a) =.returned (.int k b):=by rw[h]
theorem sj (n:Nat): -1<=fK.getD n 0/\fK.getD n 0<=4:=by
 by_cases hn:n<16
 .have:∀n<16,-1<=fK.getD n 0/\fK.getD n 0<=4:=by decide
  exact this n hn
 .rw[List.getD_eq_getElem?_getD,List.getElem?_eq_none (show fK.length<=n by simp[fK];omega)];decide
def ar (xs:Na)(i:Nat):Nat:=(xs.getD i 0).toNat
theorem aO (xs:Na)(i:Nat):ar xs i<256:=UInt8.toNat_lt _
def cZ (n x:Nat):Nat:=if n=1 then x else if n=2 then x % 32 else if n=3 then x % 16 else x % 8
def eR (n:Nat)(xs:Na):Nat->Nat
 |0=>0
 |1=>cZ n (ar xs 0)
 |k+2=>eR n xs (k+1)*64+ar xs (k+1) % 64
def qQ (xs:Na)(k:Nat):Bool:=(k !=1||dU (ar xs 0) (ar xs 1))&&eB (ar xs k)
def aL (xs:Na)(n:Nat):Nat->Nat->Nat×Nat×Nat
 |0,_=>(eR n xs n,n,0)
 |f+1,k=>if k=xs.length then(0,0,1) else if qQ xs k then aL xs n f (k+1) else(0,0,2)
def bK (xs:Na):Nat×Nat×Nat:=
 if xs = [] then(0,0,1) else if bu (ar xs 0)<1 then(0,0,2) else
  aL xs (bu (ar xs 0)).toNat ((bu (ar xs 0)).toNat - 1) 1
theorem l6 {x0 y:Nat}(h0:ar xs 0=x0)(h1:ar xs 1=y):qQ xs 1= (dU x0 y&&eB y):=by simp[qQ,h0,h1]
theorem ko {k y:Nat}(hk:k≠1)(h1:ar xs k=y):qQ xs k=eB y:=by simp[qQ,h1,hk]
theorem ah {k:Nat}{o:Obj}(h:w.heap[k]?=some o):k<w.heap.size:=(Array.getElem?_eq_some_iff.1 h).1
theorem fR (x:Nat)(hx:x<256):bu x<1\/bu x=1\/bu x=2\/bu x=3\/bu x=4:=by
 have h:∀x:Nat,x<256->bu (x:Int)<1\/bu (x:Int)=1\/bu (x:Int)=2\/bu (x:Int)=3\/bu (x:Int)=4:=by decide +kernel
 exact h x hx
theorem E4 (h:0<xs.length)(hc:bu (ar xs 0)<1):bK xs= (0,0,2):=by
 unfold bK;rw[if_neg (by intro e;subst e;simp at h),if_pos hc]
theorem nP (h:0<xs.length)(hn:1<=n)(hc:bu (ar xs 0)=n):bK xs=aL xs n (n - 1) 1:=by
 unfold bK;rw[if_neg (by intro e;subst e;simp at h),if_neg (by omega),hc];rfl
def LL (xs:Na):Nat->Nat
 |0=>0
 |k+1=>if decide (xs.length<k+1+4)&&eB (ar xs (k+1)) then LL xs k else k+1
def nU (xs:Na):Nat×Nat×Nat:=
 if xs = [] then(0,0,1) else
  let f:=LL xs (xs.length - 1)
  let r:=bK (xs.drop f)
  if r.2.2=0/\f+r.2.1=xs.length then(r.1,r.2.1,0) else(0,0,2)
theorem jG (xs:Na)(k i:Nat):ar (xs.drop k) i=ar xs (k+i):=by simp[ar,List.getElem?_drop]
theorem pI (xs:Na)(n:Nat)(hn:n<=4):∀f k,(aL xs n f k).2.1<=4/\(aL xs n f k).2.2<=2
 |0,_=>⟨hn,by simp[aL]⟩
 |f+1,k=>by
  unfold aL;split
  .simp
  .split
   .exact pI xs n hn f (k+1)
   .simp
theorem pf (xs:Na):(bK xs).2.1<=4/\(bK xs).2.2<=2:=by
 unfold bK;split
 .simp
 .split
  .simp
  .exact pI xs _ (by have:=fR _ (aO xs 0);omega) _ _
theorem pO (xs:Na)(n:Nat):∀f k,k+f=n->k<=xs.length->(aL xs n f k).2.1<=xs.length
 |0,k,h,hk=>by show n<=_;omega
 |f+1,k,h,hk=>by
  unfold aL;split
  .exact Zk _
  .split
   .exact pO xs n f (k+1) (by omega) (by omega)
   .exact Zk _
theorem mz (xs:Na):(bK xs).2.1<=xs.length:=by
 unfold bK;split
 .exact Zk _
 .rename_i h0
  split
  .exact Zk _
  .have:0<xs.length:=List.length_pos_iff.2 h0;exact pO xs _ _ 1 (by omega) (by omega)
def dY (c:Int):Bool:=decide (0<=c)&&decide (c<=1114111)&& !(decide (55296<=c)&&decide (c<=57343))
def bL (c:Int):Na:=
 if dY c then
  if c<128 then [UInt8.ofNat c.toNat]
  else if c<2048 then [UInt8.ofNat (192+c/64).toNat,UInt8.ofNat (128+c % 64).toNat]
  else if c<65536 then [UInt8.ofNat (224+c/4096).toNat,UInt8.ofNat (128+c/64 % 64).toNat,UInt8.ofNat (128+c % 64).toNat]
  else [UInt8.ofNat (240+c/262144).toNat,UInt8.ofNat (128+c/4096 % 64).toNat,UInt8.ofNat (128+c/64 % 64).toNat,UInt8.ofNat (128+c % 64).toNat]
 else []
theorem ia (c:Int):(bL c).length<=4:=by
 unfold bL
 repeat' split
 all_goals simp
theorem aM (n:Int)(h:0<=n/\n<256):(((UInt8.ofNat n.toNat).toNat:Nat):Int)=n:=by
 rw[UInt8.toNat_ofNat'];omega
def gR (xs:Na):Nat->Nat->List (Nat×Nat)
 |0,_=> []
 |f+1,k=>if(bK (xs.drop k)).2.2=0 then(k,(bK (xs.drop k)).1)::gR xs f (k+ (bK (xs.drop k)).2.1) else []
def eM (xs:Na):List (Nat×Nat):=gR xs (xs.length+1) 0
theorem nQ (xs:Na)(n:Nat):∀f k,(aL xs n f k).2.2=0->(aL xs n f k).2.1=n
 |0,_,_=>rfl
 |f+1,k,h=>by
  unfold aL at h ⊢;split
  .rename_i hk;rw[if_pos hk] at h;simp at h
  .rename_i hk;rw[if_neg hk] at h;split
   .rename_i ho;rw[if_pos ho] at h;exact nQ xs n f (k+1) h
   .rename_i ho;rw[if_neg ho] at h;simp at h
theorem fp (h:(bK xs).2.2=0):1<=(bK xs).2.1:=by
 unfold bK at h ⊢;split
 .rename_i h0;rw[if_pos h0] at h;simp at h
 .rename_i h0;rw[if_neg h0] at h;split
  .rename_i hc;rw[if_pos hc] at h;simp at h
  .rename_i hc;rw[if_neg hc] at h;rw[nQ _ _ _ _ h];omega
theorem il (xs:Na)(k:Nat)(hk:k<=xs.length):k+ (bK (xs.drop k)).2.1<=xs.length:=by
 have:=mz (xs.drop k);rw[List.length_drop] at this;omega
theorem zc {f k:Nat}(h:(bK (xs.drop k)).2.2≠0):gR xs f k = []:=by
 cases f with
 |zero=>rfl
 |succ f=>unfold gR;rw[if_neg h]
theorem zk {f k:Nat}(h:(bK (xs.drop k)).2.2=0):gR xs (f+1) k= (k,(bK (xs.drop k)).1)::gR xs f (k+ (bK (xs.drop k)).2.1):=by
 rw[gR,if_pos h]
theorem pe (x:Nat)(h:x<256):eB x=decide (128<=x/\x<192):=by
 have h':∀x:Nat,x<256->eB (x:Int)=decide (128<=x/\x<192):=by decide +kernel
 exact h' x h
theorem zt (x y:Nat)(hy:y<256):dU x y= (if x=224 then decide (160<=y/\y<=191) else if x=237 then decide (128<=y/\y<=159) else if x=240 then decide (144<=y/\y<=191) else if x=244 then decide (128<=y/\y<=143) else decide (128<=y/\y<192)):=by
 unfold dU;rw[pe y hy,Bool.eq_iff_iff]
 by_cases h1:x=224
 .subst h1;simp <;> omega
 by_cases h2:x=237
 .subst h2;simp <;> omega
 by_cases h3:x=240
 .subst h3;simp <;> omega
 by_cases h4:x=244
 .subst h4;simp <;> omega
 have e1:¬ (x:Int)=224:=by omega
 have e2:¬ (x:Int)=237:=by omega
 have e3:¬ (x:Int)=240:=by omega
 have e4:¬ (x:Int)=244:=by omega
 simp only[e1,e2,e3,e4,h1,h2,h3,h4,if_false]
theorem cC (x:Nat)(h:x<256):(bu x=1↔x<128)/\(bu x=2↔194<=x/\x<=223)/\(bu x=3↔224<=x/\x<=239)/\(bu x=4↔240<=x/\x<=244):=by
 have h':∀x:Nat,x<256->((bu (x:Int)=1↔x<128)/\(bu (x:Int)=2↔194<=x/\x<=223)/\(bu (x:Int)=3↔224<=x/\x<=239)/\(bu (x:Int)=4↔240<=x/\x<=244)):=by decide +kernel
 exact h' x h
theorem b8 (a:UInt8):a.toNat<256:=a.toNat_lt
theorem vb (a:UInt8)(t:Na):ar (a::t) 0=a.toNat:=rfl
theorem jy (a b:UInt8)(t:Na):ar (a::b::t) 1=b.toNat:=rfl
theorem lP (a b c:UInt8)(t:Na):ar (a::b::c::t) 2=c.toNat:=rfl
theorem Kw (a b c d:UInt8)(t:Na):ar (a::b::c::d::t) 3=d.toNat:=rfl
def jX (a b:Nat):Prop:=128<=b/\b<192/\(a=224->160<=b)/\(a=237->b<=159)/\(a=240->144<=b)/\(a=244->b<=143)
instance (a b:Nat):Decidable (jX a b):=by unfold jX;exact inferInstance
def tl (b:Nat):Prop:=128<=b/\b<192
instance (b:Nat):Decidable (tl b):=by unfold tl;exact inferInstance
theorem JJ (x y:Nat)(hy:y<256):(dU x y&&eB y)=decide (jX x y):=by
 rw[zt x y hy,pe y hy,Bool.eq_iff_iff];unfold jX
 by_cases h1:x=224
 .subst h1;simp;omega
 by_cases h2:x=237
 .subst h2;simp;omega
 by_cases h3:x=240
 .subst h3;simp;omega
 by_cases h4:x=244
 .subst h4;simp;omega
 simp only[h1,h2,h3,h4,if_false,Bool.and_eq_true,decide_eq_true_eq,false_implies,and_true];omega
theorem Jj (y:Nat)(hy:y<256):eB y=decide (tl y):=pe y hy
theorem rE (a b:UInt8)(t:Na):qQ (a::b::t) 1=decide (jX a.toNat b.toNat):=by
 rw[l6 (vb _ _) (jy ..)];exact JJ _ _ (b8 b)
theorem D5 (a b c:UInt8)(t:Na):qQ (a::b::c::t) 2=decide (tl c.toNat):=by
 rw[ko (by decide) (lP ..)];exact Jj _ (b8 c)
theorem KW (a b c d:UInt8)(t:Na):qQ (a::b::c::d::t) 3=decide (tl d.toNat):=by
 rw[ko (by decide) (Kw ..)];exact Jj _ (b8 d)
theorem zB (a:UInt8)(t:Na)(h:a.toNat<128):bK (a::t)= (a.toNat,1,0):=by
 rw[nP (xs:=a::t) (n:=1) (by simp) (by omega) (by rw[vb,((cC _ (b8 a)).1).2 h];rfl)];simp[aL,eR,cZ,vb]
theorem KC (a:UInt8)(t:Na)(h:¬a.toNat<128)(h2:¬ (194<=a.toNat/\a.toNat<=244)):bK (a::t)= (0,0,2):=by
 apply E4 (by simp)
 have hc:=cC _ (b8 a);rcases fR _ (b8 a) with h'|h'|h'|h'|h'
 .exact h'
 .have:=hc.1.1 h';omega
 .have:=hc.2.1.1 h';omega
 .have:=hc.2.2.1.1 h';omega
 .have:=hc.2.2.2.1 h';omega
theorem yY (a:UInt8)(t:Na)(h:194<=a.toNat/\a.toNat<=223):bK (a::t)=match t with
  | []=>(0,0,1)
  |b::_=>if jX a.toNat b.toNat then((a.toNat % 32)*64+b.toNat % 64,2,0) else(0,0,2):=by
 rw[nP (xs:=a::t) (n:=2) (by simp) (by omega) (by rw[vb,((cC _ (b8 a)).2.1).2 h];rfl)]
 cases t with
 |nil=>simp[aL]
 |cons b t=>simp[aL,eR,cZ,vb,jy,rE]
theorem yT (a:UInt8)(t:Na)(h:224<=a.toNat/\a.toNat<=239):bK (a::t)=match t with
  | []=>(0,0,1)
  | [b]=>if jX a.toNat b.toNat then(0,0,1) else(0,0,2)
  |b::c::_=>if jX a.toNat b.toNat then(if tl c.toNat then(((a.toNat % 16)*64+b.toNat % 64)*64+c.toNat % 64,3,0) else(0,0,2)) else(0,0,2):=by
 rw[nP (xs:=a::t) (n:=3) (by simp) (by omega) (by rw[vb,((cC _ (b8 a)).2.2.1).2 h];rfl)]
 match t with
 | []=>simp[aL]
 | [b]=>simp[aL,rE]
 |b::c::t=>simp[aL,eR,cZ,vb,jy,lP,rE,D5]
theorem zn (a:UInt8)(t:Na)(h:240<=a.toNat/\a.toNat<=244):bK (a::t)=match t with
  | []=>(0,0,1)
  | [b]=>if jX a.toNat b.toNat then(0,0,1) else(0,0,2)
  | [b,c]=>if jX a.toNat b.toNat then(if tl c.toNat then(0,0,1) else(0,0,2)) else(0,0,2)
  |b::c::d::_=>if jX a.toNat b.toNat then(if tl c.toNat then(if tl d.toNat then((((a.toNat % 8)*64+b.toNat % 64)*64+c.toNat % 64)*64+d.toNat % 64,4,0) else(0,0,2)) else(0,0,2)) else(0,0,2):=by
 rw[nP (xs:=a::t) (n:=4) (by simp) (by omega) (by rw[vb,((cC _ (b8 a)).2.2.2).2 h];rfl)]
 match t with
 | []=>simp[aL]
 | [b]=>simp[aL,rE]
 | [b,c]=>simp[aL,rE,D5]
 |b::c::d::t=>simp[aL,eR,cZ,vb,jy,lP,Kw,rE,D5,KW]
theorem kx {a:UInt8}(h:n=a.toNat):UInt8.ofNat n=a:=by rw[h];exact UInt8.ofNat_toNat
theorem cP (c:Nat):dY c=decide (c<=1114111/\¬ (55296<=c/\c<=57343)):=by
 unfold dY;rw[Bool.eq_iff_iff];simp;omega
theorem mV (c:Nat)(h:c<128):bL c = [UInt8.ofNat c]:=by
 have hr:dY c=true:=by rw[cP];simp;omega
 rw[bL,if_pos hr,if_pos (by omega)];rfl
theorem rF (c:Nat)(h:128<=c/\c<2048):bL c = [UInt8.ofNat (192+c/64),UInt8.ofNat (128+c % 64)]:=by
 have hr:dY c=true:=by rw[cP];simp;omega
 rw[bL,if_pos hr,if_neg (by omega),if_pos (by omega),show(192+ (c:Int)/64).toNat=192+c/64 by omega,show(128+ (c:Int) % 64).toNat=128+c % 64 by omega]
theorem pY (c:Nat)(h:2048<=c/\c<65536)(h':¬ (55296<=c/\c<=57343)):bL c = [UInt8.ofNat (224+c/4096),UInt8.ofNat (128+c/64 % 64),UInt8.ofNat (128+c % 64)]:=by
 have hr:dY c=true:=by rw[cP];simp;omega
 rw[bL,if_pos hr,if_neg (by omega),if_neg (by omega),if_pos (by omega),show(224+ (c:Int)/4096).toNat=224+c/4096 by omega,show(128+ (c:Int)/64 % 64).toNat=128+c/64 % 64 by omega,show(128+ (c:Int) % 64).toNat=128+c % 64 by omega]
theorem r9 (c:Nat)(h:65536<=c/\c<=1114111):bL c = [UInt8.ofNat (240+c/262144),UInt8.ofNat (128+c/4096 % 64),UInt8.ofNat (128+c/64 % 64),UInt8.ofNat (128+c % 64)]:=by
 have hr:dY c=true:=by rw[cP];simp;omega
 rw[bL,if_pos hr,if_neg (by omega),if_neg (by omega),if_neg (by omega),show(240+ (c:Int)/262144).toNat=240+c/262144 by omega,show(128+ (c:Int)/4096 % 64).toNat=128+c/4096 % 64 by omega,show(128+ (c:Int)/64 % 64).toNat=128+c/64 % 64 by omega,show(128+ (c:Int) % 64).toNat=128+c % 64 by omega]
theorem mH (h:(bK xs).2.2=0) :
  (∃a t,xs=a::t/\a.toNat<128/\bK xs= (a.toNat,1,0))\/
  (∃a b t,xs=a::b::t/\(194<=a.toNat/\a.toNat<=223)/\jX a.toNat b.toNat/\bK xs= ((a.toNat % 32)*64+b.toNat % 64,2,0))\/
  (∃a b c t,xs=a::b::c::t/\(224<=a.toNat/\a.toNat<=239)/\jX a.toNat b.toNat/\tl c.toNat/\bK xs= (((a.toNat % 16)*64+b.toNat % 64)*64+c.toNat % 64,3,0))\/
  (∃a b c d t,xs=a::b::c::d::t/\(240<=a.toNat/\a.toNat<=244)/\jX a.toNat b.toNat/\tl c.toNat/\tl d.toNat/\bK xs= ((((a.toNat % 8)*64+b.toNat % 64)*64+c.toNat % 64)*64+d.toNat % 64,4,0)):=by
 cases xs with
 |nil=>simp[bK] at h
 |cons a t=>
  by_cases h1:a.toNat<128
  .exact .inl ⟨a,t,rfl,h1,zB a t h1⟩
  by_cases h2:194<=a.toNat/\a.toNat<=223
  .have e:=yY a t h2
   match t with
   | []=>rw[e] at h;simp at h
   |b::t=>
    by_cases hs:jX a.toNat b.toNat
    .simp only[hs,if_true] at e;exact .inr (.inl ⟨a,b,t,rfl,h2,hs,e⟩)
    .rw[e] at h;simp[hs] at h
  by_cases h3:224<=a.toNat/\a.toNat<=239
  .have e:=yT a t h3
   match t with
   | []=>rw[e] at h;simp at h
   | [b]=>rw[e] at h;by_cases hs:jX a.toNat b.toNat <;> simp[hs] at h
   |b::c::t=>
    by_cases hs:jX a.toNat b.toNat
    .by_cases ht:tl c.toNat
     .simp only[hs,ht,if_true] at e;exact .inr (.inr (.inl ⟨a,b,c,t,rfl,h3,hs,ht,e⟩))
     .rw[e] at h;simp[hs,ht] at h
    .rw[e] at h;simp[hs] at h
  by_cases h4:240<=a.toNat/\a.toNat<=244
  .have e:=zn a t h4
   match t with
   | []=>rw[e] at h;simp at h
   | [b]=>rw[e] at h;by_cases hs:jX a.toNat b.toNat <;> simp[hs] at h
   | [b,c]=>rw[e] at h;by_cases hs:jX a.toNat b.toNat <;> by_cases ht:tl c.toNat <;> simp[hs,ht] at h
   |b::c::d::t=>
    by_cases hs:jX a.toNat b.toNat
    .by_cases ht:tl c.toNat
     .by_cases hd:tl d.toNat
      .simp only[hs,ht,hd,if_true] at e;exact .inr (.inr (.inr ⟨a,b,c,d,t,rfl,h4,hs,ht,hd,e⟩))
      .rw[e] at h;simp[hs,ht,hd] at h
     .rw[e] at h;simp[hs,ht] at h
    .rw[e] at h;simp[hs] at h
  .have e:=KC a t h1 (by omega);rw[e] at h;simp at h
theorem jp (h:(bK xs).2.2=0):bL (bK xs).1=xs.take (bK xs).2.1/\dY (bK xs).1=true:=by
 rcases mH h with ⟨a,t,rfl,h1,e⟩|⟨a,b,t,rfl,h1,hs,e⟩|⟨a,b,c,t,rfl,h1,hs,ht,e⟩|⟨a,b,c,d,t,rfl,h1,hs,ht,hd,e⟩ <;> rw[e] <;> simp only
 .exact⟨by rw[mV _ h1,kx rfl];rfl,by rw[cP];simp;omega⟩
 .unfold jX at hs;have hb:=b8 b;refine⟨?_,by rw[cP];simp;omega⟩;rw[rF _ (by omega),kx (a:=a) (by omega),kx (a:=b) (by omega)];rfl
 .unfold jX at hs;unfold tl at ht;have hb:=b8 b;have hc:=b8 c;refine⟨?_,by rw[cP];simp;omega⟩;rw[pY _ (by omega) (by omega),kx (a:=a) (by omega),kx (a:=b) (by omega),kx (a:=c) (by omega)];rfl
 .unfold jX at hs;unfold tl at ht hd;have hb:=b8 b;have hc:=b8 c;have a0:=b8 d;refine⟨?_,by rw[cP];simp;omega⟩;rw[r9 _ (by omega),kx (a:=a) (by omega),kx (a:=b) (by omega),kx (a:=c) (by omega),kx (a:=d) (by omega)];rfl
theorem pM {c:Int}(h:dY c=true):bL c≠ []:=by
 rw[bL,if_pos h];repeat' split
 all_goals simp
theorem eJ {c:Int}(h:dY c=true):0<=c:=by simp[dY] at h;omega
theorem bY (n:Nat)(h:n<256):(UInt8.ofNat n).toNat=n:=by rw[UInt8.toNat_ofNat'];omega
theorem jr (c:Nat)(h:dY c=true)(ys:Na):bK (bL c++ys)= (c,(bL c).length,0):=by
 rw[cP] at h;simp only[decide_eq_true_eq] at h
 by_cases h1:c<128
 .rw[mV c h1];have e:=bY c (by omega);rw[List.singleton_append,zB _ _ (by omega),e];rfl
 by_cases h2:c<2048
 .rw[rF c (by omega)];have e1:=bY (192+c/64) (by omega);have e2:=bY (128+c % 64) (by omega);rw[List.cons_append,yY _ _ (by omega)];simp only[List.cons_append,List.nil_append,e1,e2];rw[if_pos (by unfold jX;omega)];simp only[Prod.mk.injEq,List.length_cons,List.length_nil,and_true];omega
 by_cases h3:c<65536
 .rw[pY c (by omega) (by omega)];have e1:=bY (224+c/4096) (by omega);have e2:=bY (128+c/64 % 64) (by omega);have e3:=bY (128+c % 64) (by omega);rw[List.cons_append,yT _ _ (by omega)];simp only[List.cons_append,List.nil_append,e1,e2,e3];rw[if_pos (by unfold jX;omega),if_pos (by unfold tl;omega)];simp only[Prod.mk.injEq,List.length_cons,List.length_nil,and_true];omega
 .rw[r9 c (by omega)];have e1:=bY (240+c/262144) (by omega);have e2:=bY (128+c/4096 % 64) (by omega);have e3:=bY (128+c/64 % 64) (by omega);have e4:=bY (128+c % 64) (by omega);rw[List.cons_append,zn _ _ (by omega)];simp only[List.cons_append,List.nil_append,e1,e2,e3,e4];rw[if_pos (by unfold jX;omega),if_pos (by unfold tl;omega),if_pos (by unfold tl;omega)];simp only[Prod.mk.injEq,List.length_cons,List.length_nil,and_true];omega
theorem BR (c:Nat)(h:dY c=true):∃ (a:UInt8) (t:Na),bL c=a::t/\t.length<=3/\¬tl a.toNat/\(∀x∈t,tl x.toNat)/\bu a.toNat= ((t.length+1:Nat):Int):=by
 rw[cP] at h;simp only[decide_eq_true_eq] at h
 by_cases h1:c<128
 .rw[mV c h1];have e:=bY c (by omega);exact⟨_,_,rfl,by simp,by rw[e];unfold tl;omega,by simp,by rw[e,(cC _ (by omega)).1.2 h1];rfl⟩
 by_cases h2:c<2048
 .rw[rF c (by omega)];have e1:=bY (192+c/64) (by omega);have e2:=bY (128+c % 64) (by omega);refine⟨_,_,rfl,by simp,by rw[e1];unfold tl;omega,?_,by rw[e1,(cC _ (by omega)).2.1.2 (by omega)];rfl⟩;intro x hx;simp only[List.mem_singleton] at hx;subst hx;rw[e2];unfold tl;omega
 by_cases h3:c<65536
 .rw[pY c (by omega) (by omega)];have e1:=bY (224+c/4096) (by omega);have e2:=bY (128+c/64 % 64) (by omega);have e3:=bY (128+c % 64) (by omega);refine⟨_,_,rfl,by simp,by rw[e1];unfold tl;omega,?_,by rw[e1,(cC _ (by omega)).2.2.1.2 (by omega)];rfl⟩;intro x hx;simp only[List.mem_cons,List.not_mem_nil,or_false] at hx;rcases hx with rfl|rfl
  .rw[e2];unfold tl;omega
  .rw[e3];unfold tl;omega
 .rw[r9 c (by omega)];have e1:=bY (240+c/262144) (by omega);have e2:=bY (128+c/4096 % 64) (by omega);have e3:=bY (128+c/64 % 64) (by omega);have e4:=bY (128+c % 64) (by omega);refine⟨_,_,rfl,by simp,by rw[e1];unfold tl;omega,?_,by rw[e1,(cC _ (by omega)).2.2.2.2 (by omega)];rfl⟩;intro x hx;simp only[List.mem_cons,List.not_mem_nil,or_false] at hx;rcases hx with rfl|rfl|rfl
  .rw[e2];unfold tl;omega
  .rw[e3];unfold tl;omega
  .rw[e4];unfold tl;omega
theorem kh {a b:UInt8}{x y:Na}(h:a.toNat<b.toNat):Op.bytesLess (a::x) (b::y)=true/\Op.bytesLess (b::y) (a::x)=false:=by
 have h1:a<b:=h;have h2:¬b<a:=fun h'=>by have:b.toNat<a.toNat:=h';omega
 have h3:b≠a:=fun e=>by subst e;omega
 simp[Op.bytesLess,h1,h2,h3]
theorem wO (xs:Na):∀f k,k<=xs.length->(gR xs f k).length<=xs.length - k
 |0,k,_=>Zk _
 |f+1,k,hk=>by
  unfold gR
  split
  .rename_i h
   have h1:=fp h;have h2:=il xs k hk;have h3:=wO xs f (k+ (bK (xs.drop k)).2.1) h2;simp only[List.length_cons];omega
  .exact Zk _
theorem EM (xs:Na):(eM xs).length<=xs.length:=wO xs _ 0 (Zk _)
def iO (x n:Int):Int:=if n=2 then x - 192 else if n=3 then x - 224 else if n=4 then x - 240 else x
def iG (xs:Na)(fill:Int)(i:Nat):Int:=if i<xs.length then(ar xs i:Int) - 128 else fill
def iw (xs:Na)(n fill:Int):Nat->Int
 |0=>iO (ar xs 0) n
 |k+1=>iw xs n fill k*64+iG xs fill (k+1)
theorem tD (xs:Na)(hf:0<=fill/\fill<=63)(i:Nat): -128<=iG xs fill i/\iG xs fill i<=127:=by
 unfold iG;have:=aO xs i
 split <;> omega
theorem DZ (xs:Na)(n:Int): -256<=iO (ar xs 0) n/\iO (ar xs 0) n<=256:=by
 have:=aO xs 0;unfold iO
 split
 .omega
 .split
  .omega
  .split <;> omega
theorem IN (xs:Na)(n:Int)(hf:0<=fill/\fill<=63)(k:Nat)(hk:k<=3): -100000000<=iw xs n fill k/\iw xs n fill k<=100000000:=by
 have h0:=DZ xs n;have h1:=tD xs hf 1;have h2:=tD xs hf 2;have h3:=tD xs hf 3;have a0:k=0\/k=1\/k=2\/k=3:=by omega
 rcases a0 with rfl|rfl|rfl|rfl <;> simp only[iw,Nat.zero_add,Nat.reduceAdd] <;> omega
def fO (xs:Na):Nat->Bool
 |0=>true
 |k+1=>fO xs k&& (decide (128<=ar xs (k+1))&&decide (ar xs (k+1)<=191))
theorem GB (hn:bu (ar xs 0)=n){c:Int}(hr:dY c=true)(hb:xs.take (bL c).length=bL c):bK xs= (c.toNat,n,0):=by
 have hcn:((c.toNat:Nat):Int)=c:=by have:=eJ hr;omega
 obtain⟨a,t,e,-,-,-,a0⟩:=BR c.toNat (by rw[hcn];exact hr);rw[hcn] at e;have hx:xs=bL c++xs.drop (bL c).length:=by
  have:=List.take_append_drop (bL c).length xs;rw[hb] at this;exact this.symm
 have hd:=jr c.toNat (by rw[hcn];exact hr) (xs.drop (bL c).length);rw[hcn,<-hx] at hd;have a1:ar xs 0=a.toNat:=by rw[hx,e];simp[ar]
 have hl:(bL c).length=n:=by
  rw[a1,a0] at hn;rw[e];simp only[List.length_cons];omega
 rw[hd,hl]
theorem FL (h:(bK xs).2.2=0):∃n:Nat,1<=n/\n<=4/\bu (ar xs 0)=n/\fO xs (n - 1)=true/\iw xs n 0 (n - 1)= (bK xs).1/\dY (bK xs).1=true/\xs.take (bL (bK xs).1).length=bL (bK xs).1:=by
 obtain⟨hf,hr⟩:=jp h;have a0:xs.take (bL (bK xs).1).length=bL (bK xs).1:=by
  rw[hf,List.length_take]
  by_cases hle:(bK xs).2.1<=xs.length
  .rw[Nat.min_eq_left hle]
  .rw[Nat.min_eq_right (by omega),List.take_length,List.take_of_length_le (by omega)]
 rcases mH h with ⟨a,t,rfl,h1,e⟩|⟨a,b,t,rfl,h1,hs,e⟩|⟨a,b,c,t,rfl,h1,hs,ht,e⟩|⟨a,b,c,d,t,rfl,h1,hs,ht,hd,e⟩
 all_goals
  have ha:=b8 a;rw[e] at hr a0 ⊢;simp only at hr a0 ⊢
 .exact⟨1,by omega,by omega,by simp only[ar,List.getD_cons_zero];exact(cC _ (by omega)).1.2 h1,rfl,by simp[iw,iO,ar],hr,a0⟩
 .have hb:=b8 b;unfold jX at hs;refine⟨2,by omega,by omega,by simp only[ar,List.getD_cons_zero];exact(cC _ (by omega)).2.1.2 h1,?_,?_,hr,a0⟩
  .simp[fO,ar];omega
  .simp[iw,iO,iG,ar];omega
 .have hb:=b8 b;have hc:=b8 c;unfold jX at hs;unfold tl at ht;refine⟨3,by omega,by omega,by simp only[ar,List.getD_cons_zero];exact(cC _ (by omega)).2.2.1.2 h1,?_,?_,hr,a0⟩
  .simp[fO,ar];omega
  .simp[iw,iO,iG,ar];omega
 .have hb:=b8 b;have hc:=b8 c;have a1:=b8 d;unfold jX at hs;unfold tl at ht hd;refine⟨4,by omega,by omega,by simp only[ar,List.getD_cons_zero];exact(cC _ (by omega)).2.2.2.2 h1,?_,?_,hr,a0⟩
  .simp[fO,ar];omega
  .simp[iw,iO,iG,ar];omega
theorem nC (xs:Na)(n:Nat):∀f k,(aL xs n f k).2.2≠0->aL xs n f k= (0,0,(aL xs n f k).2.2)
 |0,_,h=>absurd rfl h
 |f+1,k,h=>by
  unfold aL at h ⊢;split
  .rfl
  .rename_i hk;rw[if_neg hk] at h;split
   .rename_i ho;rw[if_pos ho] at h;exact nC xs n f (k+1) h
   .rfl
theorem ic (h:(bK xs).2.2≠0):bK xs= (0,0,(bK xs).2.2):=by
 unfold bK at h ⊢;split
 .rfl
 .rename_i h0;rw[if_neg h0] at h;split
  .rfl
  .rename_i hc;rw[if_neg hc] at h;exact nC _ _ _ _ h
theorem BN {x:Int}(h0:0<=x)(h1:x<2147483648):wrap32 x=x:=by
 unfold wrap32;omega
theorem Dw {c:Int}(h:dY c=true):c<=1114111:=by
 simp only[dY,Bool.and_eq_true,decide_eq_true_eq] at h;exact h.1.2
def jf (x:Int):Int:=if x<128 then 1 else if x<192 then 0 else if 194<=x/\x<=223 then 2 else if 224<=x/\x<=239 then 3 else if 240<=x/\x<=244 then 4 else -1
theorem Gl (x:Nat)(h:x<256):jf x=bu x:=by
 have h':∀x:Nat,x<256->jf (x:Int)=bu (x:Int):=by decide +kernel
 exact h' x h
def Bs (w:Wd)(v:Value)(xs:Na):Prop:=
 xs.length<=9223372036854775807/\∃A c,v =.slice A xs.length c/\xs.length<=c/\(0<xs.length->∃b o,A=some (no b o)/\∀i,i<xs.length->w.cell? ⟨b,o+i,none⟩=some (.int .u8 (ar xs i)))
theorem Bs.drewN (h:Bs w v xs)(m:Nat):Bs (w.drewN m) v xs:=h
theorem Bs.below (h:Bs w v xs)(hb:ge w w'):Bs w' v xs:=by
 obtain⟨hm,A,c,e,hc,a0⟩:=h;refine⟨hm,A,c,e,hc,fun h0=>?_⟩;obtain⟨b,o,e,a1⟩:=a0 h0;exact⟨b,o,e,fun i hi=>Zg hb (a1 i hi)⟩
theorem Bs.cut {b:Nat}(h:Bs w (.slice (some (no b o)) xs.length c) xs){k:Nat}(hk:k<=xs.length) :
  Bs w (.slice (some ⟨b,o+k,none⟩) (xs.length - k) (c - k)) (xs.drop k):=by
 obtain⟨hm,A,c',e,hc,a0⟩:=h;injection e with e1 e2 e3
 subst e1 e3;refine⟨by simp;omega,_,_,by rw[List.length_drop],by simp;omega,fun h=>⟨b,o+k,rfl,fun i hi=>?_⟩⟩;simp at h hi;obtain⟨b',o',e,a1⟩:=a0 (by omega);injection e with e;injection e with e e';subst e e'
 rw[Nat.add_assoc,jG];exact a1 (k+i) (by omega)
theorem FX:(prog.info? 5).map (fun i=>(i.zero,i.size,i.bytes))=some (some (.int .u8 0),1,1):=by kernel_rfl
def bv (c:UInt8):Value:=.int .u8 c.toNat
def iK (xs:Na):Nb:=xs.map bv
theorem Bc (xs:Na):(iK xs).length=xs.length:=by simp[iK]
theorem oQ (xs ys:Na):iK (xs++ys)=iK xs++iK ys:=by simp[iK]
theorem Gk (xs:Na):∀u∈iK xs,u.oneCell'=true:=by
 intro u hu;obtain⟨c,_,rfl⟩:=List.mem_map.1 hu;rfl
theorem om (xs:Na)(i:Nat)(h:i<xs.length):(iK xs)[i]?=some (.int .u8 (ar xs i)):=by
 simp[iK,bv,ar,Zd h]
def aw (w:Wd)(base:Nat)(v:Value)(ys:Na):Prop:=w.ownsRow base 5 1 v ys.length (iK ys)
theorem Bs.cellsAt {ad:Addr}(hr:Bs w (.slice (some ad) m c) xs):m=xs.length/\∀j u,(iK xs)[j]?=some u->w.cell? (ad.add j)=some u:=by
 obtain⟨_,A,c',e,_,hc⟩:=hr;injection e with e1 e2 e3
 refine⟨e2,fun j u hu=>?_⟩;have hj:j<xs.length:=by have:=(List.getElem?_eq_some_iff.1 hu).1;rwa[Bc] at this
 obtain⟨b,o,e,a0⟩:=hc (by omega);rw[<-e1] at e;injection e with e
 subst e;rw[om xs j hj] at hu;injection hu with hu
 subst hu;have:=a0 j hj;unfold Addr.add
 split
 .rename_i h0;subst h0;simpa using this
 .exact this
theorem pg (w:Wd)(base:Nat)(ty:TypeId)(v:Value)(n:Nat)(xs:Nb)(a0:w.ownsRow base 5 1 v n xs)(c:Nat) :
  (Builtin.append_ #[30,30] ty #[v,.slice none 0 c]).run prog w =.ok v w:=by
 obtain⟨i0,hi,a4,a2,a3⟩:=info_parts FX;rcases a0.2 with ⟨rfl,rfl⟩|⟨g,cap,cur,rfl,_,_,a1,_⟩
 .simp[Builtin.append_,run_underlying underlying30,sizeOf,typeInfo,hi,Builtin.lenOf,Builtin.firstCells]
 .simp[Builtin.append_,run_underlying underlying30,sizeOf,typeInfo,hi,Builtin.lenOf,Builtin.firstCells,a1,storeCells]
theorem rf (w:Wd)(base:Nat)(ty:TypeId)(v u:Value)(ys xs:Na)(a0:aw w base v ys)(hr:Bs w u xs)(hlen:ys.length+xs.length<=140737488355328)(a2:base<=w.heap.size) :
  ∃v' w',(Builtin.append_ #[30,30] ty #[v,u]).run prog w =.ok v' w'/\aw w' base v' (ys++xs)/\w.grownBy w' v.ownBlock/\(v'.ownBlock=v.ownBlock\/v'.ownBlock=some w.heap.size):=by
 obtain⟨i0,hi,a9,a6,a7⟩:=info_parts FX;have a5:=hr;obtain⟨_,A,c,rfl,hc,_⟩:=a5
 cases A with
 |none=>
  obtain rfl:xs = []:=by
   obtain⟨_,A',c',e,_,a3⟩:=hr;rcases Nat.eq_zero_or_pos xs.length with h0|h0
   .exact List.eq_nil_of_length_eq_zero h0
   .obtain⟨b,o,e',_⟩:=a3 h0;exact absurd ((Value.slice.inj e).1.trans e') (fun h=>by cases h)
  have h0:=pg w base ty v ys.length (iK ys) a0 c;refine⟨v,w,?_,?_,World.grownBy.refl w _,.inl rfl⟩
  .exact h0
  .rw[List.append_nil];exact a0
 |some ad=>
  obtain⟨_,a1⟩:=hr.cellsAt;obtain⟨v',w',a4,h2,h3,_,h5⟩:=run_append_own_at (P:=prog) w base 30 ty 5 i0 (.int .u8 0) 1 1 underlying30 hi a9 a6 a7 rfl (by decide) v ys.length (iK ys) a0 ad xs.length c (iK xs)
   (by rw[Bc];omega) a1 (Gk xs) (by unfold maxLen;omega) (by omega) a2
  exact⟨v',w',a4,by unfold aw;rw[oQ,List.length_append];exact h2,h3,h5⟩
theorem tY {o:Oper}{a:Act}{K:Act->Wd->Prop}{Q:Exit->Act->Wd->Prop}(w:Wd)(s x:Operand)
  (ho:o.op =.call {callee:=.builtin .append,args:= #[s,x],argTypes:= #[30,30]})
  (base:Nat) (v u:Value) (ys xs:Na) (hs:a.eval s=v) (a2:aw w base v ys) (hx:a.eval x=u) (hr:Bs w u xs)
  (hlen:ys.length+xs.length<=140737488355328) (a0:base<=w.heap.size)
  (h:∀v' w',aw w' base v' (ys++xs)->w.grownBy w' v.ownBlock->(v'.ownBlock=v.ownBlock\/v'.ownBlock=some w.heap.size)->K (a.put o.dst v') w'):o.wp prog a w K Q:=by
 obtain⟨v',w',a1,h2,h3,h4⟩:=rf w base o.type v u ys xs a2 hr hlen a0;unfold Oper.wp execOp;simp only[ho,resolve,invoke,builtin,Sem.run_bind,Sem.run_pure,Result.andThen_ok,List.map_toArray,List.map_cons,List.map_nil,hs,hx,a1];exact h v' w' h2 h3 h4
theorem mi {ops:Array Oper}{rest:List Oper}{o:Oper}{a:Act}{Q:Exit->Act->Wd->Prop}(a2:o.guard=none)(s x:Operand)
  (ho:o.op =.call {callee:=.builtin .append,args:= #[s,x],argTypes:= #[30,30]})
  (base:Nat) (v u:Value) (ys xs:Na) (hs:a.eval s=v) (a1:aw w base v ys) (hx:a.eval x=u) (hr:Bs w u xs)
  (hlen:ys.length+xs.length<=140737488355328) (a0:base<=w.heap.size)
  (h:∀v' w',aw w' base v' (ys++xs)->w.grownBy w' v.ownBlock->(v'.ownBlock=v.ownBlock\/v'.ownBlock=some w.heap.size)->wpList prog ops Q rest (a.put o.dst v') w'):wpList prog ops Q (o::rest) a w:=
 wpList_plain a2 fun _ hK=>tY w s x ho base v u ys xs hs a1 hx hr hlen a0 fun v' w' h2 h3 h4=>hK _ _ (h v' w' h2 h3 h4)
theorem su {ops:Array Oper}{rest:List Oper}{o:Oper}{a:Act}{Q:Exit->Act->Wd->Prop}{s x:Operand}(a1:aw w base v ys)(hr:Bs w u xs)(hlen:ys.length+xs.length<=140737488355328)(a0:base<=w.heap.size)
  (h:∀v' w',aw w' base v' (ys++xs)->w.grownBy w' v.ownBlock->(v'.ownBlock=v.ownBlock\/v'.ownBlock=some w.heap.size)->wpList prog ops Q rest (a.put o.dst v') w')
  (ho:o.op =.call {callee:=.builtin .append,args:= #[s,x],argTypes:= #[30,30]}:=by exact rfl) (a2:o.guard=none:=by exact rfl) (hs:a.eval s=v:=by exact rfl) (hx:a.eval x=u:=by exact rfl):wpList prog ops Q (o::rest) a w:=
 mi a2 s x ho base v u ys xs hs a1 hx hr hlen a0 h
theorem aw.bs (h:aw w base v ys):Bs w v ys:=by
 obtain⟨_,⟨rfl,h0⟩|⟨g,cap,cur,rfl,_,hg,hn,hm,hs,ht⟩⟩:=h
 .exact⟨by omega,none,0,by rw[h0],by omega,fun h=>by omega⟩
 .refine⟨by unfold maxLen at hm;omega,some (nl g),cap,rfl,hn,fun _=>⟨g,0,rfl,fun i hi=>?_⟩⟩;rw[Nat.zero_add];have e:=om ys i hi;rw[<-ht,List.getElem?_take] at e;rw[if_pos (by omega)] at e;simp[World.cell?,hg];simpa using e
theorem aw.below (h:aw w base v ys)(hb:Below B w w')(hB:w.heap.size<=B):aw w' base v ys:=by
 obtain⟨h1,⟨rfl,h0⟩|⟨g,cap,cur,rfl,a0,hg,r⟩⟩:=h
 .exact⟨h1,.inl ⟨rfl,h0⟩⟩
 .exact⟨h1,.inr ⟨g,cap,cur,rfl,a0,(hb.block g (Nat.lt_of_lt_of_le (ah hg) hB)).trans hg,r⟩⟩
theorem aw.drewN (h:aw w base v ys)(m:Nat):aw (w.drewN m) base v ys:=h
theorem aw.low (h:aw w base v ys)(hb:base'<=base):aw w base' v ys:=by
 obtain⟨h1,⟨rfl,h0⟩|⟨g,cap,cur,rfl,a0,r⟩⟩:=h
 .exact⟨h1,.inl ⟨rfl,h0⟩⟩
 .exact⟨h1,.inr ⟨g,cap,cur,rfl,Zc hb a0,r⟩⟩
theorem aw.grown {row:Option Nat}(h:aw w base v ys)(hg:w.grownBy w' row)(hr:∀g,v.ownBlock=some g->row≠some g):aw w' base v ys:=by
 obtain⟨h1,⟨rfl,h0⟩|⟨g,cap,cur,rfl,a0,hh,r⟩⟩:=h
 .exact⟨h1,.inl ⟨rfl,h0⟩⟩
 .exact⟨h1,.inr ⟨g,cap,cur,rfl,a0,(hg.block g (ah hh) (fun e=>hr g rfl e.symm)).trans hh,r⟩⟩
theorem aw.nil (w:Wd)(base:Nat):aw w base () []:=⟨rfl,.inl ⟨rfl,rfl⟩⟩
theorem aw.made (hg:w.heap[g]?=some (.cells cur 5 (0,0)))(hb:base<=g)(hc:cap<=maxLen)(hs:cur.size=cap):aw w base (.slice (some (nl g)) 0 cap) []:=
 ⟨rfl,.inr ⟨g,cap,cur,rfl,hb,hg,Zk _,hc,by omega,by simp[iK]⟩⟩
theorem av {a:Wd}(h:Below B a w)(n:Nat):Below B a (w.drewN n):=⟨h.os,h.tape,h.output,h.size,h.block⟩
theorem a8 (h:Bs w v xs):(convert 30 9 v).run prog w =.ok (.string ⟨xs.toArray⟩) w:=by
 obtain⟨hm,A,c,rfl,hc,a0⟩:=h;rcases Nat.eq_zero_or_pos xs.length with h0|h0
 .obtain rfl:xs = []:=List.eq_nil_of_length_eq_zero h0;rw[run_convert_bytes_string w 30 9 5 A _ c underlying30 underlying5 underlying9]
  cases A with
  |none=>simp[Conv.bytesToString];rfl
  |some a=>simp[Conv.bytesToString,loadCells,loadCellsFrom];rfl
 .obtain⟨b,o,rfl,a1⟩:=a0 h0;refine run_convert_bytes_back w 30 9 5 ⟨b,o,none⟩ c xs underlying30 underlying5 underlying9 fun j hj=>?_
  have:=a1 j hj;unfold Addr.add
  split
  .rename_i h;subst h;simpa [ar,Zd hj] using this
  .simpa [ar,Zd hj] using this
theorem tT {z:Nat×Nat}(xs:Na)(hm:xs.length<=9223372036854775807)(hc:xs.length<=c)(hg:W.heap[g]?=some (.cells (iK xs).toArray 5 z)):Bs W (.slice (some (nl g)) xs.length c) xs:=by
 refine⟨hm,_,c,rfl,hc,fun _=>⟨g,0,rfl,fun i hi=>?_⟩⟩;have:=om xs i hi;simp only[World.cell?,hg,Nat.zero_add];simpa using this
theorem aa (w:Wd)(o:Obj):ge w (w.alloc o):=(Ze _ _).alloc (Zb _) _
theorem bI {a b c:Wd}(h:ge a b)(k:ge b c):ge a c:=h.trans (k.mono h.size)
def Bx (W:Wd)(k:Nat)(t:TypeId)(v:Value):Prop:=W.heap[k]?=some (.cells #[v] t (0,0))
section
variable {W W':Wd}{k:Nat}{t:TypeId}{v:Value}
theorem Bx.lt (h:Bx W k t v):k<W.heap.size:=ah h
theorem Bx.cell (h:Bx W k t v):W.cell? (nl k)=some v:=by unfold Bx at h;simp[World.cell?,h]
theorem Bx.frozen (h:Bx W k t v):W.frozen? (nl k)=false:=by unfold Bx at h;simp[World.frozen?,h]
theorem Bx.new (W:Wd)(t:TypeId)(v:Value):Bx (W.alloc (.cells #[v] t)) W.heap.size t v:=Zf W _
theorem Bx.alloc (h:Bx W k t v)(o:Obj):Bx (W.alloc o) k t v:=(Below.heap_alloc W o k h.lt).trans h
theorem Bx.below (h:Bx W k t v)(hb:Below B W W')(hk:k<B):Bx W' k t v:=(hb.block k hk).trans h
theorem Bx.later (h:Bx W k t v)(hb:ge W W'):Bx W' k t v:=h.below hb h.lt
theorem Bx.drewN (h:Bx W k t v)(m:Nat):Bx (W.drewN m) k t v:=h
theorem Bx.set (h:Bx W k t v)(u:Value):Bx (W.setCell (nl k) u) k t u:=by
 unfold Bx at h ⊢;simp[World.setCell,Array.getElem?_modify,h]
theorem Bx.far (h:Bx W k t v){p:Addr}(hp:k≠p.block)(u:Value):Bx (W.setCell p u) k t v:=(Below.heap_setCell W p u k hp).trans h
theorem Bx.kept (h:Bx W k t v){row:Option Nat}(hg:W.grownBy W' row)(hr:∀r,row=some r->∃o:Obj,W.heap[r]?=some o/\o.isCells=false):Bx W' k t v:=
 (hg.block k h.lt (fun e=>by
  obtain⟨o,ho,hc⟩:=hr k e.symm;unfold Bx at h;rw[h] at ho;cases ho;simp[Obj.isCells] at hc)).trans h
end
structure Mu (t e:TypeId) (z:Value) (B:Nat):Prop where
 ht:prog.underlying t=some (.slice e)
 hi:(prog.info? e).map (fun i=>(i.zero,i.size,i.bytes))=some (some z,1,B)
 hz:z.cells.size=1
theorem aj (w:Wd)(g:Nat)(cs:Array Value):w.grownBy (w.setRow g cs) (some g):=
 ⟨rfl,rfl,rfl,by simp,fun k _ hk=>setRow_other w g k cs (fun e=>hk (by simp[e]))⟩
theorem bQ {ops:Array Oper}{rest:List Oper}{o:Oper}{a:Act}{Q:Exit->Act->Wd->Prop}{t:TypeId}{x y:Operand}(hg:w.heap[g]?=some (.cells old t (0,0)))(h:wpList prog ops Q rest a (w.setRow g cells))
  (ho:o.op =.store ty x y:=by exact rfl) (hx:a.eval x =.pointer (some (nl g)):=by exact rfl) (hy:a.eval y =.agg cells:=by exact rfl) (a1:o.guard=none:=by exact rfl) (hd:o.dst=none:=by exact rfl)
  (hi:(prog.info? ty).map (·.size)=some cells.size:=by kernel_rfl) (a0:old.size=cells.size:=by exact rfl) (h1:cells.all (·.oneCell')=true:=by simp[Value.oneCell']):wpList prog ops Q (o::rest) a w:=
 wpList_store_rowTo a1 ty x y ho hd g cells hx hy t old hg hi a0 h1 h
theorem sH {z:Nat×Nat}(xs:Na)(hm:xs.length<=c)(h4:xs.length<=4)(hg:w.heap[g]?=some (.cells cur 5 z))(he:cur= (iK xs).toArray):Bs w (.slice (some (nl g)) xs.length c) xs:=
 tT xs (by omega) hm (by rw[hg,he])
theorem sW (xs:Na)(k i:Nat)(h:i<k):ar (xs.take k) i=ar xs i:=by simp[ar,List.getElem?_take,h]
theorem Bs.upto (h:Bs w (.slice A n c) xs){k:Nat}(hk:k<=xs.length):Bs w (.slice A k c) (xs.take k):=by
 obtain⟨hm,A',c',e,hc,a0⟩:=h;injection e with e1 e2 e3
 subst e1 e3;have hl:(xs.take k).length=k:=by simp;omega
 refine⟨by omega,A,c,by rw[hl],by omega,fun h0=>?_⟩;obtain⟨b,o,e,a1⟩:=a0 (by omega);refine⟨b,o,e,fun i hi=>?_⟩;rw[sW xs k i (by omega)];exact a1 i (by omega)
def M5 (c:Int)(w:Wd)(e:Ending)(w':Wd):Prop:=e =.returned (.bool (dY c))/\w=w'
theorem Ce (c:Int)(w:Wd):Calls prog 222 #[.int .i32 c] w (M5 c w):=by
 have hr:dY c= (decide (0<=c)&&decide (c<=1114111)&& (decide (c<55296)||decide (57343<c))):=by
  unfold dY;rw[Bool.eq_iff_iff];simp <;> omega
 go_in
 by_cases a1:0<=c
 .by_cases a2:c<=1114111
  .by_cases a3:c<55296
   .have a0:=Qa (show dY c=true by rw[hr];simp[a1,a2,a3]);clear hr;go_wp2;go_ret;exact⟨by rw[a0.out];rfl,rfl⟩
   .by_cases a4:57343<c
    .have a0:=Qa (show dY c=true by rw[hr];simp[a1,a2,a3,a4]);clear hr;go_wp2;go_ret;exact⟨by rw[a0.out];rfl,rfl⟩
    .have a0:=Qa (show dY c=false by rw[hr];simp[a1,a2,a3,a4]);clear hr;go_wp2;go_ret;exact⟨by rw[a0.out];rfl,rfl⟩
  .have a0:=Qa (show dY c=false by rw[hr];simp[a1,a2]);clear hr;go_wp2;go_ret;exact⟨by rw[a0.out];rfl,rfl⟩
 .have a0:=Qa (show dY c=false by rw[hr];simp[a1]);clear hr;go_wp2;go_ret;exact⟨by rw[a0.out];rfl,rfl⟩
theorem nT (c:Int)(hc:dY c=true):Calls prog 224 #[.int .i32 c] w fun e w'=> ∃v,e =.returned v/\ge w w'/\Bs w' v (bL c):=by
 have a0:=hc;simp only[dY,Bool.and_eq_true,decide_eq_true_eq,Bool.not_eq_true',Bool.and_eq_false_iff,decide_eq_false_iff_not] at a0;have a2:=a0.1.1;have a1:=a0.1.2;clear a0
 by_cases h1:c<128
 .have e:=Qa (show bL c = [UInt8.ofNat c.toNat] by rw[bL,if_pos hc,if_pos h1]);clear hc;go_in;go_wp2;go_ret;refine⟨_,rfl,aa _ _,?_⟩;rw[e.out];exact sH [_] (by simp) (by simp) (Zf _ _) (by simp only[iK,bv,List.map];rw[aM _ (by omega)])
 by_cases h2:c<2048
 .have e:=Qa (show bL c = [UInt8.ofNat (192+c/64).toNat,UInt8.ofNat (128+c % 64).toNat] by rw[bL,if_pos hc,if_neg h1,if_pos h2]);clear hc;go_in;go_wp2;go_ret;refine⟨_,rfl,aa _ _,?_⟩;rw[e.out];exact sH [_,_] (by simp) (by simp) (Zf _ _) (by simp only[iK,bv,List.map];rw[aM _ (by omega),aM _ (by omega)])
 by_cases h3:c<65536
 .have e:=Qa (show bL c = [UInt8.ofNat (224+c/4096).toNat,UInt8.ofNat (128+c/64 % 64).toNat,UInt8.ofNat (128+c % 64).toNat] by rw[bL,if_pos hc,if_neg h1,if_neg h2,if_pos h3]);clear hc;go_in;go_wp2;go_ret;refine⟨_,rfl,aa _ _,?_⟩;rw[e.out];exact sH [_,_,_] (by simp) (by simp) (Zf _ _) (by simp only[iK,bv,List.map];rw[aM _ (by omega),aM _ (by omega),aM _ (by omega)])
 .have e:=Qa (show bL c = [UInt8.ofNat (240+c/262144).toNat,UInt8.ofNat (128+c/4096 % 64).toNat,UInt8.ofNat (128+c/64 % 64).toNat,UInt8.ofNat (128+c % 64).toNat] by rw[bL,if_pos hc,if_neg h1,if_neg h2,if_neg h3]);clear hc;go_in;go_wp2;go_ret;refine⟨_,rfl,aa _ _,?_⟩;rw[e.out];exact sH [_,_,_,_] (by simp) (by simp) (Zf _ _) (by simp only[iK,bv,List.map];rw[aM _ (by omega),aM _ (by omega),aM _ (by omega),aM _ (by omega)])
theorem aw.form (h:aw w base v ys)(h0:0<ys.length) :
  ∃g cap,v =.slice (some (nl g)) ys.length cap/\base<=g/\g<w.heap.size/\ys.length<=cap/\v.ownBlock=some g:=by
 obtain⟨_,⟨rfl,h1⟩|⟨g,cap,cur,rfl,hb,hg,hn,_⟩⟩:=h
 .omega
 .exact⟨g,cap,rfl,hb,ah hg,hn,rfl⟩
theorem aw.cellAt (h:aw w base (.slice (some (nl g)) n cap) ys)(hn:ys.length=n)(k:Nat)(hk:k<n) :
  w.cell? (no g k)=some (.int .u8 (ar ys k))/\w.frozen? (no g k)=false:=by
 subst hn;exact⟨by rw[World.ownsRow.cellAt h k (by omega)];exact om ys k hk,World.ownsRow.frozenAt h k⟩
theorem aw.stored (h:aw w base (.slice (some (nl g)) n cap) ys)(hn:ys.length=n)(k:Nat)(u:UInt8) :
  aw (w.setCell (no g k) (bv u)) base (.slice (some (nl g)) n cap) (ys.set k u)/\w.grownBy (w.setCell (no g k) (bv u)) (some g):=by
 subst hn;have:=World.ownsRow.stored h k (bv u);exact⟨by unfold aw;rw[List.length_set,show iK (ys.set k u)= (iK ys).set k (bv u) by simp[iK,List.map_set]];exact this.1,this.2⟩
theorem uq (x:Int)(w:Wd):Calls prog 220 #[.int .u8 x] w fun e w'=>e = (jf x:Int)/\w=w':=by
 have hR:=Qa (show ∀n,jf x=n->Ending.returned (n:Int) =.returned (jf x:Int) from fun n h=>by rw[h]);go_in
 by_cases h1:x<128
 .have hr:=Qa (show jf x=1 by simp[jf,h1]);go_wp2;go_ret;exact⟨hR _ hr,rfl⟩
 by_cases h2:x<192
 .have hr:=Qa (show jf x=0 by simp[jf,h1,h2]);go_wp2;go_ret;exact⟨hR _ hr,rfl⟩
 by_cases h3:x<194
 .have hr:=Qa (show jf x = -1 by unfold jf;rw[if_neg h1,if_neg h2,if_neg (by omega),if_neg (by omega),if_neg (by omega)]);go_wp2;go_ret;exact⟨hR _ hr,rfl⟩
 by_cases h4:x<=223
 .have hr:=Qa (show jf x=2 by unfold jf;rw[if_neg h1,if_neg h2,if_pos (by omega)]);go_wp2;go_ret;exact⟨hR _ hr,rfl⟩
 by_cases h5:x<=239
 .have hr:=Qa (show jf x=3 by unfold jf;rw[if_neg h1,if_neg h2,if_neg (by omega),if_pos (by omega)]);go_wp2;go_ret;exact⟨hR _ hr,rfl⟩
 by_cases h6:x<=244
 .have hr:=Qa (show jf x=4 by unfold jf;rw[if_neg h1,if_neg h2,if_neg (by omega),if_neg (by omega),if_pos (by omega)]);go_wp2;go_ret;exact⟨hR _ hr,rfl⟩
 .have hr:=Qa (show jf x = -1 by unfold jf;rw[if_neg h1,if_neg h2,if_neg (by omega),if_neg (by omega),if_neg (by omega)]);go_wp2;go_ret;exact⟨hR _ hr,rfl⟩
def sD (w:Wd)(N:Nat->Int)(n:Nat)(s7 s8 s9:Value)(wr:Wd):Prop:= ∃k:Nat,1<=k/\k<=n/\s7 =(N (k - 1):Int)/\s8 =(k:Int)/\w=wr
def L4 (r:Int)(w:Wd)(e:Ending)(w':Wd):Prop:=e = (r:Int)/\w=w'
theorem kU (hb:Bs w v xs)(h0:0<xs.length)(n:Nat)(h1:1<=n)(h4:n<=4)(fill:Int)(hf:0<=fill/\fill<=63) :
  Calls prog 221 #[v,(n:Int),(fill:Int)] w fun e w'=>L4 (iw xs n fill (n - 1)) w e w':=by
 obtain⟨hm,A,cap,rfl,b2,a3⟩:=id hb;obtain⟨b,o,rfl,a7⟩:=a3 h0;have c0:=a7 0 h0;rw[Nat.add_zero] at c0;have b3:=aO xs 0;have H1:=Qa a7;have a5:=Qa (fun k=>IN xs n hf k);have Hz:=Qa (show iw xs n fill 0=iO (ar xs 0) n from rfl);clear a7 hb a3;go_in;have Hn:=Qa (show ∀k,1<=k->iw xs n fill k=iw xs n fill (k - 1)*64+iG xs fill k from fun k hk=>by obtain⟨j,rfl⟩:∃j,k=j+1:=⟨k - 1,by omega⟩;rfl);have hn:n=1\/n=2\/n=3\/n=4:=by omega
 rcases hn with hn|hn|hn|hn
 .have e2:((n:Int)==2)=false:=by rw[hn];rfl
  have e3:((n:Int)==3)=false:=by rw[hn];rfl
  have e4:((n:Int)==4)=false:=by rw[hn];rfl
  have a2:=Hz.out;have a0:iO (ar xs 0) n= (ar xs 0:Int):=by rw[hn];rfl
  generalize hN:iw xs n fill=N at *;have Hz3:=Qa (a2.trans a0);clear a2 a0 hN Hz;go_wp2_with fail
  go_loopw [7,8,9] (sD w N n) (fun _ i _ _=>4 - (intOf i).toNat)
  case atStart=>exact⟨1,by omega,by omega,congrArg _ Hz3.symm,rfl,rfl⟩
  case round=>
   obtain⟨k,a6,a9,rfl,rfl,rfl⟩:=hrel
   by_cases hlt:k<n
   .exfalso;omega
   .obtain a4:k=n:=by omega
    subst a4;go_wp2;go_ret;exact⟨rfl,rfl⟩
 .have e2:((n:Int)==2)=true:=by rw[hn];rfl
  have e3:((n:Int)==3)=false:=by rw[hn];rfl
  have e4:((n:Int)==4)=false:=by rw[hn];rfl
  have a2:=Hz.out;have a0:iO (ar xs 0) n= (ar xs 0:Int) - 192:=by rw[hn];rfl
  generalize hN:iw xs n fill=N at *;have Hz3:=Qa (a2.trans a0);clear a2 a0 hN Hz;go_wp2_with fail
  go_loopw [7,8,9] (sD w N n) (fun _ i _ _=>4 - (intOf i).toNat)
  case atStart=>exact⟨1,by omega,by omega,congrArg _ Hz3.symm,rfl,rfl⟩
  case round=>
   obtain⟨k,a6,a9,rfl,rfl,rfl⟩:=hrel
   by_cases hlt:k<n
   .have b0:=a5 (k - 1) (by omega);have a1:=a5 k (by omega);have hs:=Qa (Hn k a6);rw[hs.out] at a1;generalize N (k - 1)=z at *
    by_cases hin:k<xs.length
    .have c1:=H1 k hin;have hd:iG xs fill k=ar xs k - 128:=by unfold iG;rw[if_pos hin]
     have b1:=aO xs k;rw[hd] at a1 hs;clear hd;go_wp2_with fail;exact⟨⟨k+1,by omega,by omega,by rw[show k+1 - 1=k by omega,hs.out],by go_num,rfl⟩,by simp[intOf];omega⟩
    .have hd:iG xs fill k=fill:=by unfold iG;rw[if_neg hin]
     rw[hd] at a1 hs;clear hd;go_wp2_with fail;exact⟨⟨k+1,by omega,by omega,by rw[show k+1 - 1=k by omega,hs.out],by go_num,rfl⟩,by simp[intOf];omega⟩
   .obtain a4:k=n:=by omega
    subst a4;go_wp2;go_ret;exact⟨rfl,rfl⟩
 .have e2:((n:Int)==2)=false:=by rw[hn];rfl
  have e3:((n:Int)==3)=true:=by rw[hn];rfl
  have e4:((n:Int)==4)=false:=by rw[hn];rfl
  have a2:=Hz.out;have a0:iO (ar xs 0) n= (ar xs 0:Int) - 224:=by rw[hn];rfl
  generalize hN:iw xs n fill=N at *;have Hz3:=Qa (a2.trans a0);clear a2 a0 hN Hz;go_wp2_with fail
  go_loopw [7,8,9] (sD w N n) (fun _ i _ _=>4 - (intOf i).toNat)
  case atStart=>exact⟨1,by omega,by omega,congrArg _ Hz3.symm,rfl,rfl⟩
  case round=>
   obtain⟨k,a6,a9,rfl,rfl,rfl⟩:=hrel
   by_cases hlt:k<n
   .have b0:=a5 (k - 1) (by omega);have a1:=a5 k (by omega);have hs:=Qa (Hn k a6);rw[hs.out] at a1;generalize N (k - 1)=z at *
    by_cases hin:k<xs.length
    .have c1:=H1 k hin;have hd:iG xs fill k=ar xs k - 128:=by unfold iG;rw[if_pos hin]
     have b1:=aO xs k;rw[hd] at a1 hs;clear hd;go_wp2_with fail;exact⟨⟨k+1,by omega,by omega,by rw[show k+1 - 1=k by omega,hs.out],by go_num,rfl⟩,by simp[intOf];omega⟩
    .have hd:iG xs fill k=fill:=by unfold iG;rw[if_neg hin]
     rw[hd] at a1 hs;clear hd;go_wp2_with fail;exact⟨⟨k+1,by omega,by omega,by rw[show k+1 - 1=k by omega,hs.out],by go_num,rfl⟩,by simp[intOf];omega⟩
   .obtain a4:k=n:=by omega
    subst a4;go_wp2;go_ret;exact⟨rfl,rfl⟩
 .have e2:((n:Int)==2)=false:=by rw[hn];rfl
  have e3:((n:Int)==3)=false:=by rw[hn];rfl
  have e4:((n:Int)==4)=true:=by rw[hn];rfl
  have a2:=Hz.out;have a0:iO (ar xs 0) n= (ar xs 0:Int) - 240:=by rw[hn];rfl
  generalize hN:iw xs n fill=N at *;have Hz3:=Qa (a2.trans a0);clear a2 a0 hN Hz;go_wp2_with fail
  go_loopw [7,8,9] (sD w N n) (fun _ i _ _=>4 - (intOf i).toNat)
  case atStart=>exact⟨1,by omega,by omega,congrArg _ Hz3.symm,rfl,rfl⟩
  case round=>
   obtain⟨k,a6,a9,rfl,rfl,rfl⟩:=hrel
   by_cases hlt:k<n
   .have b0:=a5 (k - 1) (by omega);have a1:=a5 k (by omega);have hs:=Qa (Hn k a6);rw[hs.out] at a1;generalize N (k - 1)=z at *
    by_cases hin:k<xs.length
    .have c1:=H1 k hin;have hd:iG xs fill k=ar xs k - 128:=by unfold iG;rw[if_pos hin]
     have b1:=aO xs k;rw[hd] at a1 hs;clear hd;go_wp2_with fail;exact⟨⟨k+1,by omega,by omega,by rw[show k+1 - 1=k by omega,hs.out],by go_num,rfl⟩,by simp[intOf];omega⟩
    .have hd:iG xs fill k=fill:=by unfold iG;rw[if_neg hin]
     rw[hd] at a1 hs;clear hd;go_wp2_with fail;exact⟨⟨k+1,by omega,by omega,by rw[show k+1 - 1=k by omega,hs.out],by go_num,rfl⟩,by simp[intOf];omega⟩
   .obtain a4:k=n:=by omega
    subst a4;go_wp2;go_ret;exact⟨rfl,rfl⟩
def GF (xs ys:Na)(w:Wd)(e:Ending)(w':Wd):Prop:=e =.returned (.bool (xs.take ys.length==ys))/\∃m,w'=w.drewN m
theorem yB (hb:Bs w v xs)(hc:Bs w u ys):Calls prog 223 #[v,u] w (GF xs ys w):=by
 obtain⟨hm,A,cap,rfl,a2,-⟩:=id hb;obtain⟨a3,B,cap2,rfl,a0,-⟩:=id hc
 by_cases hl:ys.length<=xs.length
 .have a1:ys.length<=cap:=by omega
  have q1:∀n,(convert 30 9 (.slice A ys.length cap)).run prog (w.drewN n) =.ok (.string ⟨(xs.take ys.length).toArray⟩) (w.drewN n):=fun n=>a8 ((hb.upto hl).drewN n)
  have q2:=fun n=>a8 (hc.drewN n)
  clear hb hc;go_in;go_wp2_with fail;go_quiet (fail);go_wp2;go_ret;exact⟨rfl,_,rfl⟩
 .have hne:=Qa (show(xs.take ys.length==ys)=false from beq_eq_false_iff_ne.2 (fun h=>by have:=congrArg List.length h;rw[List.length_take] at this;omega));clear hb hc;go_in;go_wp2;go_ret;exact⟨by rw[hne.out];rfl,0,rfl⟩
def Gf (w:Wd)(e:Ending)(w':Wd):Prop:=(∃b,e =.returned (.bool b))/\ge w w'
def Ke (w:Wd)(len:Nat)(s5:Value)(wr:Wd):Prop:= ∃k:Nat,1<=k/\k<=len/\s5 =(k:Int)/\w=wr
theorem Iy (hb:Bs w v xs)(h0:0<xs.length)(n:Nat)(h4:n<=4)(hl:xs.length<n) :
  Calls prog 225 #[v,(n:Int)] w (Gf w):=by
 obtain⟨hm,A,cap,rfl,a2,a0⟩:=id hb;obtain⟨b,o,rfl,a1⟩:=a0 h0;have H1:=Qa a1;have Hb:=Qa hb;clear a1 hb a0;go_in;go_wp2_with fail
 go_loopw [5] (Ke w xs.length) (fun i _=>xs.length - (intOf i).toNat)
 case atStart=>exact⟨1,by omega,by omega,rfl,rfl⟩
 case round=>
  obtain⟨k,a5,a4,rfl,rfl⟩:=hrel
  by_cases hlt:k<xs.length
  .have c1:=H1 k hlt;have a6:=aO xs k
   by_cases t1:ar xs k<128
   .have t1':((ar xs k:Nat):Int)<128:=by omega
    go_wp2;go_ret;exact⟨⟨_,rfl⟩,Ze _ _⟩
   .have t1':¬ ((ar xs k:Nat):Int)<128:=by omega
    by_cases t2:ar xs k<=191
    .have t2':((ar xs k:Nat):Int)<=191:=by omega
     go_wp2_with fail;exact⟨⟨k+1,by omega,by omega,by go_num,rfl⟩,by simp[intOf];omega⟩
    .have t2':¬ ((ar xs k:Nat):Int)<=191:=by omega
     go_wp2;go_ret;exact⟨⟨_,rfl⟩,Ze _ _⟩
  .obtain a3:k=xs.length:=by omega
   subst a3;have hn:n=2\/n=3\/n=4:=by omega
   go_wp2_with fail;refine(kU Hb h0 n (by omega) h4 0 (by omega)).mono ?_;rintro e w' ⟨rfl,rfl⟩;go_wp2_with fail;refine(kU Hb h0 n (by omega) h4 63 (by omega)).mono ?_;rintro e w' ⟨rfl,rfl⟩;generalize iw xs n 0 (n - 1)=x;generalize iw xs n 63 (n - 1)=y;rcases hn with rfl|rfl|rfl
   all_goals
    go_wp2_with fail
    all_goals
     go_ret;exact⟨⟨_,rfl⟩,((Ze _ _).alloc (Zb _) _).alloc (by simp) _⟩
def Mn (r:Nat×Nat×Nat)(w:Wd)(e:Ending)(w':Wd):Prop:=(∃code:Int,e =.returned (.tuple #[.int .i32 r.1,(r.2.1:Int),(code:Int)])/\(code=0↔r.2.2=0))/\ge w w'
def Ik (w:Wd)(xs:Na)(n:Nat)(s6 s7:Value)(wr:Wd):Prop:= ∃k:Nat,1<=k/\k<=n/\s6 =.bool (fO xs (k - 1))/\s7 =(k:Int)/\w=wr
theorem oX (hb:Bs w v xs):Calls prog 198 #[v] w (Mn (bK xs) w):=by
 obtain⟨hm,A,cap,rfl,c2,a2⟩:=id hb;have a1:=Qa a2;have Hb:=Qa hb;clear a2 hb
 by_cases h0:xs.length=0
 .obtain rfl:xs = []:=List.eq_nil_of_length_eq_zero h0;go_in;go_wp2;go_ret3;exact⟨⟨103,rfl,by simp[bK]⟩,Ze _ _⟩
 have d0:(((xs.length:Nat):Int)==0)=false:=beq_eq_false_iff_ne.2 (by omega);obtain⟨b,o,rfl,a9⟩:=a1 (by omega);have c0:=a9 0 (by omega);rw[Nat.add_zero] at c0;have hx:=aO xs 0;have b9:=Qa a9;clear a9 a1;have a7:=fR (ar xs 0) hx;have Hq:=Qa (Gl (ar xs 0) hx);go_in;go_wp2_with fail;refine(uq _ _).mono ?_;rintro e w' ⟨rfl,rfl⟩;rw[Hq.out]
 by_cases hc1:bu (ar xs 0)<1
 .have hd:=Qa (E4 (by omega) hc1);go_wp2;go_ret3;exact⟨⟨101,by rw[hd.out];rfl,by rw[hd.out];simp⟩,Ze _ _⟩
 obtain⟨n,hn,c9,b4⟩:∃n:Nat,bu (ar xs 0)=n/\1<=n/\n<=4:=by
  rcases a7 with h|h|h|h|h
  .omega
  .exact⟨1,h,by omega,by omega⟩
  .exact⟨2,h,by omega,by omega⟩
  .exact⟨3,h,by omega,by omega⟩
  .exact⟨4,h,by omega,by omega⟩
 rw[hn];have a3:=Qa (fun h=>FL (xs:=xs) h);have a6:=Qa (fun (c:Int) hr hb=>GB (xs:=xs) hn (c:=c) hr hb);have Hn:=Qa hn;clear a7 hc1 hn
 by_cases hlen:n<=xs.length
 .go_wp2_with fail
  go_loopw [6,7] (Ik w xs n) (fun _ i _=>n - (intOf i).toNat)
  case atStart=>exact⟨1,by omega,by omega,rfl,rfl,rfl⟩
  case round=>
   obtain⟨k,c6,d1,rfl,rfl,rfl⟩:=hrel
   by_cases hlt:k<n
   .have c1:=b9 k (by omega);have d2:=aO xs k;have hg:=Qa (show fO xs k= (fO xs (k - 1)&& (decide (128<=ar xs k)&&decide (ar xs k<=191))) from by obtain⟨j,rfl⟩:∃j,k=j+1:=⟨k - 1,by omega⟩;rfl)
    cases hgk:fO xs (k - 1)
    .have a4:=Qa (show fO xs k=false by rw[hg.out,hgk];rfl);clear hgk;go_wp2_with fail;exact⟨⟨k+1,by omega,by omega,by rw[show k+1 - 1=k by omega,a4.out],by go_num,rfl⟩,by simp[intOf];omega⟩
    .by_cases t1:128<=ar xs k
     .have t1':128<=((ar xs k:Nat):Int):=by omega
      by_cases t2:ar xs k<=191
      .have t2':((ar xs k:Nat):Int)<=191:=by omega
       have a4:=Qa (show fO xs k=true by rw[hg.out,hgk];simp[t1,t2]);clear hgk;go_wp2_with fail;exact⟨⟨k+1,by omega,by omega,by rw[show k+1 - 1=k by omega,a4.out],by go_num,rfl⟩,by simp[intOf];omega⟩
      .have t2':¬ ((ar xs k:Nat):Int)<=191:=by omega
       have a4:=Qa (show fO xs k=false by rw[hg.out,hgk];simp[t2]);clear hgk;go_wp2_with fail;exact⟨⟨k+1,by omega,by omega,by rw[show k+1 - 1=k by omega,a4.out],by go_num,rfl⟩,by simp[intOf];omega⟩
     .have t1':¬128<=((ar xs k:Nat):Int):=by omega
      have a4:=Qa (show fO xs k=false by rw[hg.out,hgk];simp[t1]);clear hgk;go_wp2_with fail;exact⟨⟨k+1,by omega,by omega,by rw[show k+1 - 1=k by omega,a4.out],by go_num,rfl⟩,by simp[intOf];omega⟩
   .obtain c4:k=n:=by omega
    subst c4;go_wp2_with fail;refine(kU Hb (by omega) k c6 b4 0 (by omega)).mono ?_;rintro e w' ⟨rfl,rfl⟩;have b6:(bK xs).2.2=0->fO xs (k - 1)=true/\wrap32 (iw xs k 0 (k - 1))= (bK xs).1/\dY (bK xs).1=true/\xs.take (bL (bK xs).1).length=bL (bK xs).1:=fun h=>by
     obtain⟨m,c5,c3,hm,b8,hnum,hr,b2⟩:=a3 h;obtain rfl:m=k:=by have:=Hn.out;omega
     refine⟨b8,?_,hr,b2⟩;rw[hnum];exact BN (by have:=eJ hr;omega) (by have:=Dw hr;omega)
    have b3:=Qa b6;clear b6;obtain⟨c,hc⟩:=y7 (wrap32 (iw xs k 0 (k - 1)));go_upto_region 13 with fail
    rw[hc] at b3 ⊢;clear hc;have a5:fO xs (k - 1)=false\/dY c=false\/(xs.take (bL c).length==bL c)=false->(bK xs).2.2≠0:=fun h e=>by
     obtain⟨h1,h2,h3,h4⟩:=b3 e;subst h2;rcases h with h|h|h
     .rw[h1] at h;cases h
     .rw[h3] at h;cases h
     .rw[h4] at h;simp at h
    have b1:=Qa a5;clear a5
    cases hgk:fO xs (k - 1)
    .have a0:=Qa (b1 (.inl hgk));clear hgk;go_wp2;go_ret3;exact⟨⟨101,by rw[ic a0.out];rfl,by rw[ic a0.out];simp[a0.out]⟩,Ze _ _⟩
    .clear hgk;go_wp2_with fail;refine(Ce c w).mono ?_;rintro e w' ⟨rfl,rfl⟩
     cases hr:dY c
     .have a0:=Qa (b1 (.inr (.inl hr)));clear hr;go_wp2;go_ret3;exact⟨⟨101,by rw[ic a0.out];rfl,by rw[ic a0.out];simp[a0.out]⟩,Ze _ _⟩
     .have Hr:=Qa hr;clear hr;go_wp2_with fail;refine(nT c Hr).mono ?_;rintro e w1 ⟨vf,rfl,b7,b5⟩;have b0:=Qa b7;have c7:=Qa b5;clear b7 b5;go_wp2_with fail;refine(yB (Hb.below b0) c7).mono ?_;rintro e w' ⟨rfl,m,rfl⟩
      cases ht:(xs.take (bL c).length==bL c)
      .have a0:=Qa (b1 (.inr (.inr ht)));clear ht;go_wp2;go_ret3;exact⟨⟨101,by rw[ic a0.out];rfl,by rw[ic a0.out];simp[a0.out]⟩,av b0.out m⟩
      .have hd:=Qa (a6 c Hr.out (by simpa using ht));have hcn:=Qa (show((c.toNat:Nat):Int)=c by have:=eJ Hr.out;omega);clear ht;go_wp2;go_ret3;exact⟨⟨0,by rw[hd.out,hcn.out];rfl,by rw[hd.out];simp⟩,av b0.out m⟩
 .have a5:Hid ((bK xs).2.2≠0):=Qa (fun h=>by
   obtain⟨m,c5,c3,hm,b8,hnum,hr,b2⟩:=a3 h;obtain rfl:m=n:=by have:=Hn.out;omega
   have hd:=a6 _ hr b2;have:=mz xs;rw[hd] at this;simp at this;omega)
  go_wp2_with fail;refine(Iy Hb (by omega) n b4 (by omega)).mono ?_;rintro e w' ⟨⟨bb,rfl⟩,c8⟩
  cases bb
  all_goals
   go_wp2;go_ret3;exact⟨⟨_,by rw[ic a5.out];rfl,by rw[ic a5.out];simp[a5.out]⟩,c8⟩
structure Dc where
 neg:Bool
 digits:Nc
 exp:Int
deriving DecidableEq
structure Nd where
 kind:Int
 tr:Bool
 text:Nc
 num:Dc
 names:List Nc
 kids:List Nat
deriving DecidableEq
inductive JV where
 |mk (kind:Int) (tr:Bool) (text:Nc) (num:Dc) (names:List Nc) (kids:List JV)
theorem JV.ind {P:JV->Prop}(h:∀k t x n ns ks,(∀u∈ks,P u)->P (.mk k t x n ns ks))(v:JV):P v:=
 JV.rec (motive_1:=P) (motive_2:=fun l=> ∀u∈l,P u) (fun k t x n ns ks ih=>h k t x n ns ks ih) (fun u hu=>by cases hu)
  (fun v vs h1 h2 u hu=>by rcases List.mem_cons.1 hu with rfl|hu;exact h1;exact h2 u hu) v
def JV.kids:JV->List JV | .mk _ _ _ _ _ ks=>ks
mutual
def JV.size:JV->Nat
 | .mk _ _ _ _ _ ks=>1+JV.sizes ks
def JV.sizes:List JV->Nat
 | []=>0
 |v::vs=>JV.size v+JV.sizes vs
end
def aZ:Nat->List JV->List Nat
 |_, []=> []
 |p,v::vs=>p::aZ (p+v.size) vs
mutual
def JV.flat:Nat->JV->List Nd
 |p,.mk k t x n ns ks=>⟨k,t,x,n,ns,aZ (p+1) ks⟩::JV.flats (p+1) ks
def JV.flats:Nat->List JV->List Nd
 |_, []=> []
 |p,v::vs=>JV.flat p v++JV.flats (p+v.size) vs
end
theorem JV.size_pos (v:JV):1<=v.size:=by cases v;simp[JV.size]
theorem lA {l:List JV}(h:∀u∈l,∀p,(JV.flat p u).length=u.size):∀p,(JV.flats p l).length=JV.sizes l:=by
 induction l with
 |nil=>intro p;simp[JV.flats,JV.sizes]
 |cons v vs ih=>
  intro p;simp only[JV.flats,JV.sizes,List.length_append];rw[h v (by simp),ih (fun u hu=>h u (Zm _ hu))]
theorem JV.flat_len (v:JV):∀p,(JV.flat p v).length=v.size:=by
 refine JV.ind (P:=fun v=> ∀p,(JV.flat p v).length=v.size) (fun k t x n ns ks ih p=>?_) v;simp only[JV.flat,JV.size,List.length_cons];rw[lA ih];omega
theorem JV.flats_len (l:List JV)(p:Nat):(JV.flats p l).length=JV.sizes l:=lA (fun u _=>JV.flat_len u) p
theorem bm:∀ (l:List JV) (p:Nat),(aZ p l).length=l.length
 | [],_=>rfl
 |v::vs,p=>by simp[aZ,bm vs]
theorem dk (a b:List JV):JV.sizes (a++b)=JV.sizes a+JV.sizes b:=by
 induction a with
 |nil=>simp[JV.sizes]
 |cons v vs ih=>simp[JV.sizes,ih];omega
theorem dF (a b:List JV)(p:Nat):aZ p (a++b)=aZ p a++aZ (p+JV.sizes a) b:=by
 induction a generalizing p with
 |nil=>simp[aZ,JV.sizes]
 |cons v vs ih=>simp[aZ,JV.sizes,ih,Nat.add_assoc]
theorem fU (a b:List JV)(p:Nat):JV.flats p (a++b)=JV.flats p a++JV.flats (p+JV.sizes a) b:=by
 induction a generalizing p with
 |nil=>simp[JV.flats,JV.sizes]
 |cons v vs ih=>simp[JV.flats,JV.sizes,ih,Nat.add_assoc]
def Nd.shift (d:Nat)(x:Nd):Nd:={x with kids:=x.kids.map (· + d)}
theorem lZ:∀ (l:List JV) (p d:Nat),aZ (p+d) l= (aZ p l).map (· + d)
 | [],_,_=>rfl
 |v::vs,p,d=>by
  simp only[aZ,List.map_cons];rw[show p+d+v.size= (p+v.size)+d by omega,lZ vs]
theorem qr {l:List JV}(h:∀u∈l,∀p d,JV.flat (p+d) u= (JV.flat p u).map (Nd.shift d)) :
  ∀p d,JV.flats (p+d) l= (JV.flats p l).map (Nd.shift d):=by
 induction l with
 |nil=>intro p d;simp[JV.flats]
 |cons v vs ih=>
  intro p d;simp only[JV.flats,List.map_append];rw[h v (by simp),show p+d+v.size= (p+v.size)+d by omega,ih (fun u hu=>h u (Zm _ hu))]
theorem JV.flat_shift (v:JV):∀p d,JV.flat (p+d) v= (JV.flat p v).map (Nd.shift d):=by
 refine JV.ind (P:=fun v=> ∀p d,JV.flat (p+d) v= (JV.flat p v).map (Nd.shift d)) (fun k t x n ns ks ih p d=>?_) v;simp only[JV.flat,List.map_cons,Nd.shift];rw[show p+d+1= (p+1)+d by omega,qr ih,lZ]
inductive dI:JV->Nat->Nat->JV->Prop
 |here (v:JV) (p:Nat):dI v p p v
 |down {k:Int} {t:Bool} {x:Nc} {n:Dc} {ns:List Nc} {pre post:List JV} {u:JV} {p a:Nat} {w:JV} (h:dI u (p+1+JV.sizes pre) a w):dI (.mk k t x n ns (pre++u::post)) p a w
theorem BT {l:List JV}(h:∀u∈l,∀p a,p<=a->a<p+u.size->∃w,dI u p a w) :
  ∀ (p a:Nat),p<=a->a<p+JV.sizes l->∃pre u post w,l=pre++u::post/\dI u (p+JV.sizes pre) a w:=by
 induction l with
 |nil=>intro p a h1 h2;simp[JV.sizes] at h2;omega
 |cons v vs ih=>
  intro p a h1 h2;simp only[JV.sizes] at h2
  by_cases hlt:a<p+v.size
  .obtain⟨w,hw⟩:=h v (by simp) p a h1 hlt;exact⟨[],v,vs,w,rfl,by simpa [JV.sizes] using hw⟩
  .obtain⟨pre,u,post,w,rfl,hw⟩:=ih (fun u hu=>h u (Zm _ hu)) (p+v.size) a (by omega) (by omega);exact⟨v::pre,u,post,w,rfl,by simpa [JV.sizes,Nat.add_assoc] using hw⟩
theorem Bq (v:JV):∀p a,p<=a->a<p+v.size->∃w,dI v p a w:=by
 refine JV.ind (P:=fun v=> ∀p a,p<=a->a<p+v.size->∃w,dI v p a w) (fun k t x n ns ks ih p a h1 h2=>?_) v;simp only[JV.size] at h2
 by_cases he:p=a
 .subst he;exact⟨_,dI.here _ _⟩
 .obtain⟨pre,u,post,w,rfl,hw⟩:=BT ih (p+1) a (by omega) (by omega);exact⟨w,dI.down hw⟩
theorem dI.flat {v:JV}{a:Nat}{w:JV}(h:dI v p a w):∃A B,JV.flat p v=A++JV.flat a w++B/\p+A.length=a:=by
 induction h with
 |here v p=>exact⟨[], [],by simp,by simp⟩
 | @down k t x n ns pre post u p a w h ih=>
  obtain⟨A,B,he,hl⟩:=ih;refine⟨⟨k,t,x,n,ns,aZ (p+1) (pre++u::post)⟩:: (JV.flats (p+1) pre++A),B++JV.flats (p+1+JV.sizes pre+u.size) post,?_,?_⟩
  .simp only[JV.flat,fU,JV.flats,he];simp
  .simp[JV.flats_len];omega
theorem dI.bd {v:JV}{a:Nat}{w:JV}(h:dI v p a w):p<=a/\a+w.size<=p+v.size:=by
 obtain⟨A,B,he,hl⟩:=h.flat;have:=congrArg List.length he;simp[JV.flat_len] at this;omega
theorem dI.kid {v:JV}{a:Nat}{k:Int}{t:Bool}{x:Nc}{n:Dc}{pre post:List JV}{u:JV}(h:dI v p a (.mk k t x n ns (pre++u::post))):dI v p (a+1+JV.sizes pre) u:=by
 generalize hw:JV.mk k t x n ns (pre++u::post)=w at h
 induction h with
 |here v p=>subst hw;exact dI.down (dI.here _ _)
 |down h ih=>exact dI.down (ih hw)
theorem dI.node {v:JV}{a:Nat}{k:Int}{t:Bool}{x:Nc}{n:Dc}{ks:List JV}(h:dI v p a (.mk k t x n ns ks)):(JV.flat p v)[a - p]?=some ⟨k,t,x,n,ns,aZ (a+1) ks⟩:=by
 obtain⟨A,B,he,hl⟩:=h.flat;rw[he,List.append_assoc,List.getElem?_append_right (by omega),show a - p - A.length=0 by omega];simp[JV.flat]
theorem cA {α:Type}{l:List α}{a:α}(h:l[i]?=some a):l.take (i+1)=l.take i ++ [a]:=by rw[List.take_add_one,h];rfl
theorem uT {l:List JV}{v:JV}(h:l[i]?=some v)(p:Nat):aZ p (l.take (i+1))=aZ p (l.take i) ++ [p+JV.sizes (l.take i)]:=by
 rw[cA h,dF];simp[aZ]
theorem zu {l:List JV}{v:JV}(h:l[i]?=some v)(p:Nat):JV.flats p (l.take (i+1))=JV.flats p (l.take i)++ (v.flat 0).map (Nd.shift (p+JV.sizes (l.take i))):=by
 rw[cA h,fU,show JV.flats (p+JV.sizes (l.take i)) [v]=v.flat (p+JV.sizes (l.take i)) by simp[JV.flats]];have:=v.flat_shift 0 (p+JV.sizes (l.take i));rw[Nat.zero_add] at this;rw[this]
theorem qH {l:List JV}(i:Nat):JV.sizes (l.take i)<=JV.sizes l:=by
 have h:=dk (l.take i) (l.drop i);rw[List.take_append_drop] at h;omega
theorem kP {l:List JV}{v:JV}(h:l[i]?=some v):JV.sizes (l.take i)+v.size<=JV.sizes l:=by
 have h1:=qH (l:=l) (i+1);rw[cA h,dk] at h1;simpa [JV.sizes] using h1
theorem bW:∀l:List JV,l.length<=JV.sizes l
 | []=>Zb _
 |v::vs=>by have:=bW vs;have:=v.size_pos;simp[JV.sizes];omega
theorem ow {v:JV}{x:Nd}(h:x∈v.flat 0):x.kids.length<=v.size:=by
 suffices ∀p,∀x∈v.flat p,x.kids.length<=v.size from this 0 x h
 clear h;refine JV.ind (P:=fun v=> ∀p,∀x∈v.flat p,x.kids.length<=v.size) (fun k t x n ns ks ih p y hy=>?_) v;simp only[JV.flat,List.mem_cons] at hy;rcases hy with rfl|hy
 .simp[bm,JV.size];have:=bW ks;omega
 .suffices ∀ (l:List JV) p,(∀u∈l,∀p,∀x∈u.flat p,x.kids.length<=u.size)->y∈JV.flats p l->y.kids.length<=JV.sizes l by
   have:=this ks _ ih hy;simp[JV.size];omega
  intro l
  induction l with
  |nil=>intro p _ h;simp[JV.flats] at h
  |cons v vs ih2=>
   intro p hu h;simp only[JV.flats,List.mem_append] at h;simp only[JV.sizes];rcases h with h|h
   .have:=hu v (by simp) p y h;omega
   .have:=ih2 (p+v.size) (fun u hm=>hu u (Zm _ hm)) h;omega
def Nd.mv (f:Nat->Nat)(x:Nd):Nd:={x with kids:=x.kids.map f}
theorem kf:∀ (l:List JV) (P Q:Nat) (f:Nat->Nat),(∀q,P<=q->q<P+JV.sizes l->f q=q - P+Q)->(aZ P l).map f=aZ Q l
 | [],_,_,_,_=>rfl
 |v::vs,P,Q,f,h=>by
  have hp:=v.size_pos;simp only[JV.sizes] at h;simp only[aZ,List.map_cons];rw[h P (by omega) (by omega),kf vs (P+v.size) (Q+v.size) f (fun q h1 h2=>by rw[h q (by omega) (by omega)];omega)];simp
theorem nf {l:List JV}(ih:∀u∈l,∀P Q f,(∀q,P<=q->q<P+u.size->f q=q - P+Q)->(JV.flat P u).map (Nd.mv f)=JV.flat Q u) :
  ∀ (P Q:Nat) (f:Nat->Nat),(∀q,P<=q->q<P+JV.sizes l->f q=q - P+Q)->(JV.flats P l).map (Nd.mv f)=JV.flats Q l:=by
 induction l with
 |nil=>intro P Q f _;simp[JV.flats]
 |cons v vs ih2=>
  intro P Q f h;simp only[JV.sizes] at h;simp only[JV.flats,List.map_append];rw[ih v (by simp) P Q f (fun q h1 h2=>h q h1 (by omega)),ih2 (fun u hu=>ih u (Zm _ hu)) (P+v.size) (Q+v.size) f (fun q h1 h2=>by rw[h q (by omega) (by omega)];omega)]
theorem AG (v:JV):∀ (P Q:Nat) (f:Nat->Nat),(∀q,P<=q->q<P+v.size->f q=q - P+Q)->(JV.flat P v).map (Nd.mv f)=JV.flat Q v:=by
 refine JV.ind (P:=fun v=> ∀ (P Q:Nat) (f:Nat->Nat),(∀q,P<=q->q<P+v.size->f q=q - P+Q)->(JV.flat P v).map (Nd.mv f)=JV.flat Q v) (fun k t x n ns ks ih P Q f h=>?_) v;simp only[JV.size] at h;simp only[JV.flat,List.map_cons,Nd.mv];rw[kf ks (P+1) (Q+1) f (fun q h1 h2=>by rw[h q (by omega) (by omega)];omega)];rw[show(JV.flats (P+1) ks).map (Nd.mv f)=JV.flats (Q+1) ks from nf ih (P+1) (Q+1) f (fun q h1 h2=>by rw[h q (by omega) (by omega)];omega)]
theorem xN (l:List JV)(P Q:Nat)(f:Nat->Nat)(h:∀q,P<=q->q<P+JV.sizes l->f q=q - P+Q):(JV.flats P l).map (Nd.mv f)=JV.flats Q l:=nf (fun u _=>AG u) P Q f h
def nW (e ws us k:Nat):Nat:=if e<=k then k - ws+us else k
inductive uR (u:JV):JV->Nat->Nat->JV->JV->Prop
 |here (v:JV) (p:Nat):uR u v p p v u
 |down {k:Int} {t:Bool} {x:Nc} {n:Dc} {ns:List Nc} {pre post:List JV} {u0 u1:JV} {p a:Nat} {w:JV} (h:uR u u0 (p+1+JV.sizes pre) a w u1):uR u (.mk k t x n ns (pre++u0::post)) p a w (.mk k t x n ns (pre++u1::post))
theorem uR.of_sits {v:JV}{a:Nat}{w:JV}(h:dI v p a w)(u:JV):∃v',uR u v p a w v':=by
 induction h with
 |here v p=>exact⟨u,.here v p⟩
 |down h ih=>obtain⟨v',h'⟩:=ih;exact⟨_,.down h'⟩
theorem uR.sits {u v:JV}{a:Nat}{w v':JV}(h:uR u v p a w v'):dI v p a w:=by
 induction h with
 |here v p=>exact .here v p
 |down _ ih=>exact .down ih
theorem uR.size {u v:JV}{a:Nat}{w v':JV}(h:uR u v p a w v'):v'.size+w.size=v.size+u.size:=by
 induction h with
 |here v p=>omega
 | @down k t x n ns pre post u0 u1 p a w h ih=>simp only[JV.size,dk,JV.sizes];omega
theorem uR.flat {u v:JV}{a:Nat}{w v':JV}(h:uR u v p a w v'):∃A B,v.flat p=A++w.flat a++B/\p+A.length=a/\v'.flat p=A.map (Nd.mv (nW (a+w.size) w.size u.size))++u.flat a++B.map (Nd.mv (nW (a+w.size) w.size u.size)):=by
 induction h with
 |here v p=>exact⟨[], [],by simp,by simp,by simp⟩
 | @down k t x n ns pre post u0 u1 p a w h ih=>
  obtain⟨A,B,h1,h2,h3⟩:=ih;have a1:=h.sits.bd;have hsz:=h.size;have a0:∀q,q<a+w.size->nW (a+w.size) w.size u.size q=q:=fun q hq=>by unfold nW;rw[if_neg (by omega)]
  have hw:=w.size_pos;refine⟨⟨k,t,x,n,ns,aZ (p+1) (pre++u0::post)⟩:: (JV.flats (p+1) pre++A),B++JV.flats (p+1+JV.sizes pre+u0.size) post,?_,?_,?_⟩
  .simp only[JV.flat,fU,JV.flats,h1];simp
  .simp[JV.flats_len];omega
  .have e1:(aZ (p+1) (pre++u0::post)).map (nW (a+w.size) w.size u.size)=aZ (p+1) (pre++u1::post):=by
    rw[dF,dF,List.map_append];rw[kf pre (p+1) (p+1) _ (fun q g1 g2=>by rw[a0 q (by omega)];omega)];simp only[aZ,List.map_cons];rw[a0 _ (by omega),kf post (p+1+JV.sizes pre+u0.size) (p+1+JV.sizes pre+u1.size) _ (fun q g1 g2=>by unfold nW;rw[if_pos (by omega)];omega)]
   have e2:(JV.flats (p+1) pre).map (Nd.mv (nW (a+w.size) w.size u.size))=JV.flats (p+1) pre:=xN pre (p+1) (p+1) _ (fun q g1 g2=>by rw[a0 q (by omega)];omega);have e3:(JV.flats (p+1+JV.sizes pre+u0.size) post).map (Nd.mv (nW (a+w.size) w.size u.size))=JV.flats (p+1+JV.sizes pre+u1.size) post:=xN post _ _ _ (fun q g1 g2=>by unfold nW;rw[if_pos (by omega)];omega);simp only[JV.flat,fU,JV.flats,h3,List.map_cons,List.map_append,e2,e3];simp only[Nd.mv,e1];simp
section
variable {w w':Wd}{base:Nat}{e:TypeId}{k n:Nat}{v:Value}{xs:Nb}
theorem aq (h:w.ownsRow base e k v n xs)(hb:Below B w w')(hB:w.heap.size<=B):w'.ownsRow base e k v n xs:=by
 obtain⟨h1,⟨rfl,h0⟩|⟨g,cap,cur,rfl,a0,hg,r⟩⟩:=h
 .exact⟨h1,.inl ⟨rfl,h0⟩⟩
 .exact⟨h1,.inr ⟨g,cap,cur,rfl,a0,(hb.block g (Nat.lt_of_lt_of_le (ah hg) hB)).trans hg,r⟩⟩
theorem bT (h:w.ownsRow base e k v n xs)(hb:base'<=base):w.ownsRow base' e k v n xs:=by
 obtain⟨h1,⟨rfl,h0⟩|⟨g,cap,cur,rfl,a0,r⟩⟩:=h
 .exact⟨h1,.inl ⟨rfl,h0⟩⟩
 .exact⟨h1,.inr ⟨g,cap,cur,rfl,Zc hb a0,r⟩⟩
def nF (w:Wd)(g:Nat)(e:TypeId):Prop:= ∃cs z,w.heap[g]?=some (.cells cs e z)
def aK (T:TypeId->Prop)(w w':Wd):Prop:=w.heap.size<=w'.heap.size/\∀ (g:Nat) (cs:Array Value) (e:TypeId) (z:Nat×Nat),w.heap[g]?=some (.cells cs e z)->¬T e->w'.heap[g]?=some (.cells cs e z)
theorem aK.refl (T:TypeId->Prop)(w:Wd):aK T w w:=⟨Zb _,fun _ _ _ _ h _=>h⟩
theorem aK.trans {a b c:Wd}(h:aK T a b)(k:aK T b c):aK T a c:=⟨Zc h.1 k.1,fun g cs e z hg ht=>k.2 g cs e z (h.2 g cs e z hg ht) ht⟩
theorem aK.of_below (T:TypeId->Prop)(h:ge w w'):aK T w w':=⟨h.size,fun g cs e z hg _=>(h.block g (ah hg)).trans hg⟩
theorem aK.of_grown {row:Option Nat}(hg:w.grownBy w' row)(ht:∀ (g:Nat),row=some g->∀ (cs:Array Value) (e:TypeId) (z:Nat×Nat),w.heap[g]?=some (.cells cs e z)->T e):aK T w w':=
 ⟨hg.size,fun g cs e z h hn=>(hg.block g (ah h) (fun eq=>hn (ht g eq.symm cs e z h))).trans h⟩
theorem aK.setCell {p:Addr}(u:Value)(ht:∀ (cs:Array Value) (e:TypeId) (z:Nat×Nat),w.heap[p.block]?=some (.cells cs e z)->T e):aK T w (w.setCell p u):=
 ⟨by simp,fun g cs e z h hn=>(Below.heap_setCell w p u g (by rintro rfl;exact hn (ht cs e z h))).trans h⟩
theorem aK.drewN (T:TypeId->Prop)(m:Nat):aK T w (w.drewN m):=⟨Zb _,fun _ _ _ _ h _=>h⟩
theorem ap (h:w.ownsRow base e k v n xs)(hk:aK T w w')(he:¬T e):w'.ownsRow base e k v n xs:=by
 obtain⟨h1,⟨rfl,h0⟩|⟨g,cap,cur,rfl,a0,hg,r⟩⟩:=h
 .exact⟨h1,.inl ⟨rfl,h0⟩⟩
 .exact⟨h1,.inr ⟨g,cap,cur,rfl,a0,hk.2 g cur e _ hg he,r⟩⟩
theorem am (h:w.ownsRow base e k v n xs)(hv:v.ownBlock=some g):base<=g/\∃cur,w.heap[g]?=some (.cells cur e (0,0)):=by
 obtain⟨h1,⟨rfl,h0⟩|⟨g',cap,cur,rfl,a0,hg,r⟩⟩:=h
 .simp[Value.ownBlock] at hv
 .simp[Value.ownBlock] at hv;subst hv;exact⟨a0,cur,hg⟩
theorem ce (h:w.ownsRow base e k v n xs):(v =.slice none 0 0/\n=0/\xs = [])\/∃g cap,v =.slice (some (nl g)) n cap/\base<=g/\n<=cap/\n<=maxLen:=by
 obtain⟨h1,⟨rfl,h0⟩|⟨g,cap,cur,rfl,a0,hg,h2,h3,r⟩⟩:=h
 .subst h0;exact .inl ⟨rfl,rfl,List.eq_nil_of_length_eq_zero (by omega)⟩
 .exact .inr ⟨g,cap,rfl,a0,h2,Zc h2 h3⟩
theorem ai (h:w.ownsRow base e k v n xs):∃A cap,v =.slice A n cap/\n<=cap/\n<=maxLen/\(0<n->∃g,A=some (nl g)):=by
 rcases ce h with ⟨rfl,rfl,_⟩|⟨g,cap,rfl,_,h1,h2⟩
 .exact⟨none,0,rfl,Zb _,Zk _,fun h=>by omega⟩
 .exact⟨_,cap,rfl,h1,h2,fun _=>⟨g,rfl⟩⟩
theorem aB (h:w.ownsRow base e k (.slice A n cap) n xs)(hA:A=some (nl g))(j:Nat)(hj:j<n*k):w.cell? (no g j)=xs[j]?:=by
 subst hA;exact World.ownsRow.cellAt h j hj
end
def dy (s:Nc):Value:=.string s
def cv (k:Nat):Value:=(k:Int)
def cX (w:Wd)(base:Nat)(v:Value)(l:List Nc):Prop:=w.ownsRow base 9 1 v l.length (l.map dy)
def bO (w:Wd)(base:Nat)(v:Value)(l:List Nat):Prop:=w.ownsRow base 3 1 v l.length (l.map cv)
def aF (x:Nd)(vn vk:Value):Nb:= [.int .i64 x.kind,.bool x.tr,.string x.text,.bool x.num.neg,.string x.num.digits,.int .i64 x.num.exp,vn,vk]
def iE (w:Wd)(u:Nb)(x:Nd):Prop:= ∃vn vk,u=aF x vn vk/\cX w 0 vn x.names/\bO w 0 vk x.kids
def bC {α β:Type}(R:α->β->Prop)(l:List α)(m:List β):Prop:=l.length=m.length/\∀ (i:Nat) (a:α) (b:β),l[i]?=some a->m[i]?=some b->R a b
theorem bC.mono {α β:Type}{R S:α->β->Prop}{l:List α}{m:List β}(h:bC R l m)(hs:∀a b,R a b->S a b):bC S l m:=⟨h.1,fun i a b h1 h2=>hs _ _ (h.2 i a b h1 h2)⟩
theorem bC.nil {α β:Type}(R:α->β->Prop):bC R [] []:=⟨rfl,fun i a b h=>by simp at h⟩
theorem bC.snoc {α β:Type}{R:α->β->Prop}{l:List α}{m:List β}{a:α}{b:β}(h:bC R l m)(hr:R a b):bC R (l ++ [a]) (m ++ [b]):=by
 refine⟨by simp[h.1],fun i x y h1 h2=>?_⟩;have hl:=h.1
 by_cases hi:i<l.length
 .rw[List.getElem?_append_left hi] at h1;rw[List.getElem?_append_left (by omega)] at h2;exact h.2 i x y h1 h2
 .rw[List.getElem?_append_right (by omega)] at h1 h2;rw[hl] at h1;have hz:i - m.length=0:=by have:=(List.getElem?_eq_some_iff.1 h1).1;simp at this;omega
  rw[hz] at h1 h2;simp at h1 h2;subst h1 h2;exact hr
theorem bC.get {α β:Type}{R:α->β->Prop}{l:List α}{m:List β}(h:bC R l m){b:β}(hb:m[i]?=some b):∃a,l[i]?=some a/\R a b:=by
 have hi:=(List.getElem?_eq_some_iff.1 hb).1;rw[<-h.1] at hi;exact⟨_,Zd hi,h.2 i _ _ (Zd hi) hb⟩
theorem bC.cons {α β:Type}{R:α->β->Prop}{l:List α}{m:List β}{a:α}{b:β}(hr:R a b)(h:bC R l m):bC R (a::l) (b::m):=by
 refine⟨by simp[h.1],fun i x y h1 h2=>?_⟩
 cases i with
 |zero=>simp at h1 h2;subst h1 h2;exact hr
 |succ i=>simp at h1 h2;exact h.2 i x y h1 h2
def cS (w:Wd)(base:Nat)(v:Value)(ns:List Nd):Prop:= ∃us:List (Nb),w.ownsRow base 74 8 v ns.length us.flatten/\bC (iE w) us ns
theorem wu {us:List (Nb)}{k:Nat}(h:∀u∈us,u.length=k):∀i j,j<k->us.flatten[i*k+j]?=us[i]?.bind (·[j]?):=by
 induction us with
 |nil=>intro i j hj;simp
 |cons a l ih=>
  intro i j hj;have ha:=h a (by simp);have hl:=ih (fun u hu=>h u (Zm _ hu))
  cases i with
  |zero=>simp[List.getElem?_append_left (show j<a.length by omega)]
  |succ i=>
   rw[List.flatten_cons,List.getElem?_append_right (by rw[ha,Nat.succ_mul];omega),ha,show(i+1)*k+j - k=i*k+j by rw[Nat.succ_mul];omega,hl i j hj];simp
theorem iE.len {u:Nb}{x:Nd}(h:iE w u x):u.length=8:=by obtain⟨_,_,rfl,_⟩:=h;rfl
theorem bC.lens {us:List (Nb)}{ns:List Nd}(h:bC (iE w) us ns):∀u∈us,u.length=8:=by
 intro u hu;obtain⟨i,hi,rfl⟩:=List.getElem_of_mem hu;have a0:i<ns.length:=by rw[<-h.1];exact hi
 exact(h.2 i us[i] ns[i] (Zd hi) (Zd a0)).len
section
variable {w w':Wd}{base:Nat}{v:Value}
theorem cX.below {l:List Nc}(h:cX w base v l)(hb:Below B w w')(hB:w.heap.size<=B):cX w' base v l:=aq h hb hB
theorem bO.below {l:List Nat}(h:bO w base v l)(hb:Below B w w')(hB:w.heap.size<=B):bO w' base v l:=aq h hb hB
theorem cX.low {l:List Nc}{b:Nat}(h:cX w base v l)(hb:b<=base):cX w b v l:=bT h hb
theorem bO.low {l:List Nat}{b:Nat}(h:bO w base v l)(hb:b<=base):bO w b v l:=bT h hb
theorem iE.below {u:Nb}{x:Nd}(h:iE w u x)(hb:Below B w w')(hB:w.heap.size<=B):iE w' u x:=by
 obtain⟨vn,vk,rfl,h1,h2⟩:=h;exact⟨vn,vk,rfl,h1.below hb hB,h2.below hb hB⟩
theorem iE.keeps {u:Nb}{x:Nd}(h:iE w u x)(hk:aK T w w')(h1:¬T 9)(h2:¬T 3):iE w' u x:=by
 obtain⟨vn,vk,rfl,h3,h4⟩:=h;exact⟨vn,vk,rfl,ap h3 hk h1,ap h4 hk h2⟩
theorem cS.below {ns:List Nd}(h:cS w base v ns)(hb:Below B w w')(hB:w.heap.size<=B):cS w' base v ns:=by
 obtain⟨us,h1,h2⟩:=h;exact⟨us,aq h1 hb hB,h2.mono fun _ _ h=>h.below hb hB⟩
theorem cS.keeps {ns:List Nd}(h:cS w base v ns)(hk:aK T w w')(h1:¬T 9)(h2:¬T 3)(h3:¬T 74):cS w' base v ns:=by
 obtain⟨us,h4,h5⟩:=h;exact⟨us,ap h4 hk h3,h5.mono fun _ _ h=>h.keeps hk h1 h2⟩
theorem cS.low {ns:List Nd}{b:Nat}(h:cS w base v ns)(hb:b<=base):cS w b v ns:=by
 obtain⟨us,h1,h2⟩:=h;exact⟨us,bT h1 hb,h2⟩
theorem cS.form {ns:List Nd}(h:cS w base v ns):∃A cap,v =.slice A ns.length cap/\ns.length<=cap/\ns.length<=maxLen/\(0<ns.length->∃g,A=some (nl g)):=by
 obtain⟨us,h1,_⟩:=h;exact ai h1
theorem cS.node {ns:List Nd}{x:Nd}(h:cS w base (.slice (some (nl g)) n cap) ns)(hx:ns[i]?=some x) :
  ∃vn vk,cX w 0 vn x.names/\bO w 0 vk x.kids/\∀j u,(aF x vn vk)[j]?=some u->w.cell? ⟨g,i*8+j,none⟩=some u:=by
 obtain⟨us,h1,h2⟩:=h;have hi:=(List.getElem?_eq_some_iff.1 hx).1;obtain⟨a,ha,vn,vk,rfl,h3,h4⟩:=h2.get hx;refine⟨vn,vk,h3,h4,fun j u hu=>?_⟩;have hj:j<8:=by have:=(List.getElem?_eq_some_iff.1 hu).1;simpa [aF] using this
 have hn:n=ns.length:=by
  rcases ce h1 with ⟨e,_⟩|⟨_,_,e,_⟩
  .cases e
  .injection e
 subst hn;rw[World.ownsRow.cellAt h1 (i*8+j) (by omega),wu h2.lens i j hj,ha];exact hu
end
def pB (P:Nat->Prop)(us:List (Nb)):Prop:= ∀u∈us,∀g,(u.getD 6 undef).ownBlock=some g->P g
def bo (P:Nat->Prop)(w:Wd)(base:Nat)(v:Value)(ns:List Nd):Prop:= ∃us:List (Nb),w.ownsRow base 74 8 v ns.length us.flatten/\bC (iE w) us ns/\pB P us
theorem bo.flat {ns:List Nd}(h:bo P w base v ns):cS w base v ns:=by obtain⟨us,h1,h2,_⟩:=h;exact⟨us,h1,h2⟩
theorem bo.form {ns:List Nd}(h:bo P w base v ns):∃A cap,v =.slice A ns.length cap/\ns.length<=cap/\ns.length<=maxLen/\(0<ns.length->∃g,A=some (nl g)):=h.flat.form
theorem bo.low {b:Nat}{ns:List Nd}(h:bo P w base v ns)(hb:b<=base):bo P w b v ns:=by obtain⟨us,h1,h2,h3⟩:=h;exact⟨us,bT h1 hb,h2,h3⟩
theorem bo.imp {ns:List Nd}(h:bo P w base v ns)(hq:∀g,P g->g<w.heap.size->Q g):bo Q w base v ns:=by
 obtain⟨us,h1,h2,h3⟩:=h;refine⟨us,h1,h2,fun u hu g e=>hq g (h3 u hu g e) ?_⟩;obtain⟨i,hi,rfl⟩:=List.getElem_of_mem hu;obtain⟨vn,vk,he,hs,_⟩:=h2.2 i us[i] (ns[i]'(by rw[<-h2.1];exact hi)) (Zd hi) (Zd _);rw[he] at e;obtain⟨_,cur,hh⟩:=am hs (by simpa [aF] using e);exact ah hh
theorem bo.below {ns:List Nd}(h:bo P w base v ns)(hb:Below B w w')(hB:w.heap.size<=B):bo P w' base v ns:=by
 obtain⟨us,h1,h2,h3⟩:=h;exact⟨us,aq h1 hb hB,h2.mono fun _ _ h=>h.below hb hB,h3⟩
theorem bo.keeps {ns:List Nd}(h:bo P w base v ns)(hk:aK T w w')(h1:¬T 9)(h2:¬T 3)(h3:¬T 74):bo P w' base v ns:=by
 obtain⟨us,h4,h5,h6⟩:=h;exact⟨us,ap h4 hk h3,h5.mono fun _ _ h=>h.keeps hk h1 h2,h6⟩
theorem bo.grownStr {ns:List Nd}{row:Option Nat}(h:bo P w base v ns)(hg:w.grownBy w' row)(ht:∀g,row=some g->nF w g 9)(hP:∀g,P g->row≠some g):bo P w' base v ns:=by
 obtain⟨us,h1,h2,h3⟩:=h;have hk:aK (fun e=>e=9) w w':=aK.of_grown hg (fun g e cs t z hh=>by obtain⟨cs',z',h'⟩:=ht g e;rw[h'] at hh;injection hh with hh;injection hh with _ hh;exact hh.symm);refine⟨us,ap h1 hk (by decide),⟨h2.1,fun i u x hu hx=>?_⟩,h3⟩;obtain⟨vn,vk,he,hs,hkk⟩:=h2.2 i u x hu hx;refine⟨vn,vk,he,World.ownsRow.kept hs hg ?_,ap hkk hk (by decide)⟩
 cases hb:vn.ownBlock with
 |none=>exact .inl rfl
 |some g=>exact .inr (fun e=>hP g (h3 u (Zl hu) g (by rw[he];simpa [aF] using hb)) e.symm)
theorem cS.nil (w:Wd)(base:Nat):cS w base () []:=⟨[],⟨rfl,.inl ⟨rfl,rfl⟩⟩,bC.nil _⟩
theorem cX.nil (w:Wd)(base:Nat):cX w base () []:=⟨rfl,.inl ⟨rfl,rfl⟩⟩
theorem bO.nil (w:Wd)(base:Nat):bO w base () []:=⟨rfl,.inl ⟨rfl,rfl⟩⟩
structure dH (t e:TypeId) (z:Value) (k B:Nat):Prop where
 ht:prog.underlying t=some (.slice e)
 hi:(prog.info? e).map (fun i=>(i.zero,i.size,i.bytes))=some (some z,k,B)
 hz:z.cells.size=k
 h0:0<k
theorem uS:dH 72 9 ByteArray.empty 1 16:=⟨underlying72,by kernel_rfl,rfl,by decide⟩
theorem fD:dH 31 3 (0:Int) 1 8:=⟨underlying31,by kernel_rfl,rfl,by decide⟩
theorem sG:dH 27 74 (.agg #[(0:Int),false,ByteArray.empty,false,ByteArray.empty,(0:Int),(),()]) 8 112:=⟨underlying27,by kernel_rfl,rfl,by decide⟩
theorem kV {t:TypeId}{k:Nat}(E:dH t e z k B)(n:Nat)(hn:n<=maxLen)(hB:B*n<=281474976710656):∃cur:Array Value,cur.size=n*k/\
  ∀W:Wd,(Instr.makeSlice t (0:Int) (n:Int)).run prog W =.ok (.slice (some (nl W.heap.size)) 0 n) (W.alloc (.cells cur e)):=by
 obtain⟨i0,hi,a2,a0,a1⟩:=info_parts E.hi;have a3:n<=9223372036854775807:=by unfold maxLen at hn;omega
 refine⟨madeCells z.cells (n*k),by simp[madeCells],fun W=>?_⟩;have:=run_make (P:=prog) W t e i0 z E.ht hi a2 .i64 .i64 0 n (by omega) (by omega) (by rw[a1];omega) (by omega);rw[a0] at this;simpa using this
theorem dA {k:Nat}(hg:w.heap[g]?=some (.cells cur e (0,0)))(hb:base<=g)(hc:cap<=maxLen)(hs:cur.size=cap*k):w.ownsRow base e k (.slice (some (nl g)) 0 cap) 0 []:=
 ⟨by rw[Nat.zero_mul];rfl,.inr ⟨g,cap,cur,rfl,hb,hg,Zk _,hc,hs,by rw[Nat.zero_mul];rfl⟩⟩
theorem ft {k:Nat}(hg:w.heap[g]?=some (.cells cur e (0,0)))(hb:base<=g)(hc:n<=maxLen)(hs:cur.size=n*k):w.ownsRow base e k (.slice (some (nl g)) n n) n cur.toList:=
 ⟨by rw[Array.length_toList,hs],.inr ⟨g,n,cur,rfl,hb,hg,Zb _,hc,hs,List.take_of_length_le (by rw[Array.length_toList,hs];exact Zb _)⟩⟩
theorem ni {t:TypeId}{k:Nat}(E:dH t e z k B){o:Oper}{a:Act}{K:Act->Wd->Prop}{Q:Exit->Act->Wd->Prop}(s x:Operand)
  (ho:o.op =.call {callee:=.builtin .append,args:= #[s,x],argTypes:= #[t,t]})
  (base:Nat) (v:Value) (n g c m:Nat) (us news:Nb) (hs:a.eval s=v) (a2:w.ownsRow base e k v n us) (hx:a.eval x =.slice (some (nl g)) m c) (hl:news.length=m*k)
  (hg:∀j u,news[j]?=some u->w.cell? (no g j)=some u) (h1:∀u∈news,u.oneCell'=true)
  (hlen:n+m<=maxLen) (hby:(n+m)*B<=140737488355328) (a0:base<=w.heap.size)
  (h:∀v' w',w'.ownsRow base e k v' (n+m) (us++news)->w.grownBy w' v.ownBlock->(v'.ownBlock=v.ownBlock\/v'.ownBlock=some w.heap.size)->K (a.put o.dst v') w'):o.wp prog a w K Q:=by
 obtain⟨i0,hi,a5,a3,a4⟩:=info_parts E.hi;obtain⟨v',w',a1,h2,h3,_,h5⟩:=run_append_own_at (P:=prog) w base t o.type e i0 z k B E.ht hi a5 a3 a4 E.hz E.h0 v n us a2 ⟨g,0,none⟩ m c news
  hl (fun j y hy=>by
   have:=hg j y hy;unfold Addr.add
   split
   .rename_i h0;subst h0;exact this
   .simpa using this) h1 hlen hby a0
 unfold Oper.wp execOp;simp only[ho,resolve,invoke,builtin,Sem.run_bind,Sem.run_pure,Result.andThen_ok,List.map_toArray,List.map_cons,List.map_nil,hs,hx,a1];exact h v' w' h2 h3 h5
theorem dB {t:TypeId}{k:Nat}(E:dH t e z k B){ops:Array Oper}{rest:List Oper}{o:Oper}{a:Act}{Q:Exit->Act->Wd->Prop}(a2:o.guard=none)(s x:Operand)
  (ho:o.op =.call {callee:=.builtin .append,args:= #[s,x],argTypes:= #[t,t]})
  (base:Nat) (v:Value) (n g c m:Nat) (us news:Nb) (hs:a.eval s=v) (a1:w.ownsRow base e k v n us) (hx:a.eval x =.slice (some (nl g)) m c) (hl:news.length=m*k)
  (hg:∀j u,news[j]?=some u->w.cell? (no g j)=some u) (h1:∀u∈news,u.oneCell'=true)
  (hlen:n+m<=maxLen) (hby:(n+m)*B<=140737488355328) (a0:base<=w.heap.size)
  (h:∀v' w',w'.ownsRow base e k v' (n+m) (us++news)->w.grownBy w' v.ownBlock->(v'.ownBlock=v.ownBlock\/v'.ownBlock=some w.heap.size)->wpList prog ops Q rest (a.put o.dst v') w'):wpList prog ops Q (o::rest) a w:=
 wpList_plain a2 fun _ hK=>ni E s x ho base v n g c m us news hs a1 hx hl hg h1 hlen hby a0 fun v' w' h2 h3 h4=>hK _ _ (h v' w' h2 h3 h4)
theorem qV {t:TypeId}{k:Nat}(E:dH t e z k B){ops:Array Oper}{o:Oper}{a:Act}{K:Act->Wd->Prop}{Q:Exit->Act->Wd->Prop}{E':Prop}(a2:o.guard=none)(s x:Operand)
  (ho:o.op =.call {callee:=.builtin .append,args:= #[s,x],argTypes:= #[t,t]})
  (base:Nat) (v:Value) (n g c m:Nat) (us news:Nb) (hs:a.eval s=v) (a1:w.ownsRow base e k v n us) (hx:a.eval x =.slice (some (nl g)) m c) (hl:news.length=m*k)
  (hg:∀j u,news[j]?=some u->w.cell? (no g j)=some u) (h1:∀u∈news,u.oneCell'=true)
  (hlen:n+m<=maxLen) (hby:(n+m)*B<=140737488355328) (a0:base<=w.heap.size)
  (h:∀v' w',w'.ownsRow base e k v' (n+m) (us++news)->w.grownBy w' v.ownBlock->(v'.ownBlock=v.ownBlock\/v'.ownBlock=some w.heap.size)->K (a.put o.dst v') w') :
  if Region.wanted o (yielded ops a.tmps)=true then Oper.wp prog o a w K Q else E':=by
 have hw:Region.wanted o (yielded ops a.tmps)=true:=by simp[Region.wanted,a2]
 rw[if_pos hw];exact ni E s x ho base v n g c m us news hs a1 hx hl hg h1 hlen hby a0 h
theorem ir {t:TypeId}{k:Nat}(E:dH t e z k B){ops:Array Oper}{rest:List Oper}{o:Oper}{a:Act}{Q:Exit->Act->Wd->Prop}{s x:Operand}
  (a1:w.ownsRow base e k v n us) (hg:∀j u,news[j]?=some u->w.cell? (no g j)=some u) (a0:base<=w.heap.size)
  (h:∀v' w',w'.ownsRow base e k v' (n+m) (us++news)->w.grownBy w' v.ownBlock->(v'.ownBlock=v.ownBlock\/v'.ownBlock=some w.heap.size)->wpList prog ops Q rest (a.put o.dst v') w')
  (ho:o.op =.call {callee:=.builtin .append,args:= #[s,x],argTypes:= #[t,t]}:=by exact rfl) (a2:o.guard=none:=by exact rfl) (hs:a.eval s=v:=by exact rfl) (hx:a.eval x =.slice (some (nl g)) m c:=by exact rfl)
  (hl:news.length=m*k:=by exact rfl) (h1:∀u∈news,u.oneCell'=true:=by simp[Value.oneCell']) (hlen:n+m<=maxLen:=by unfold maxLen;omega) (hby:(n+m)*B<=140737488355328:=by omega):wpList prog ops Q (o::rest) a w:=
 dB E a2 s x ho base v n g c m us news hs a1 hx hl hg h1 hlen hby a0 h
theorem Ao {t:TypeId}{k:Nat}(E:dH t e z k B){ops:Array Oper}{o:Oper}{a:Act}{K:Act->Wd->Prop}{Q:Exit->Act->Wd->Prop}{E':Prop}{s x:Operand}
  (a1:w.ownsRow base e k v n us) (hg:∀j u,news[j]?=some u->w.cell? (no g j)=some u) (a0:base<=w.heap.size)
  (h:∀v' w',w'.ownsRow base e k v' (n+m) (us++news)->w.grownBy w' v.ownBlock->(v'.ownBlock=v.ownBlock\/v'.ownBlock=some w.heap.size)->K (a.put o.dst v') w')
  (ho:o.op =.call {callee:=.builtin .append,args:= #[s,x],argTypes:= #[t,t]}:=by exact rfl) (a2:o.guard=none:=by exact rfl) (hs:a.eval s=v:=by exact rfl) (hx:a.eval x =.slice (some (nl g)) m c:=by exact rfl)
  (hl:news.length=m*k:=by exact rfl) (h1:∀u∈news,u.oneCell'=true:=by simp[Value.oneCell']) (hlen:n+m<=maxLen:=by unfold maxLen;omega) (hby:(n+m)*B<=140737488355328:=by omega):if Region.wanted o (yielded ops a.tmps)=true then Oper.wp prog o a w K Q else E':=
 qV E a2 s x ho base v n g c m us news hs a1 hx hl hg h1 hlen hby a0 h
theorem au (w:Wd)(cs:Nb)(t:TypeId):∀j u,cs[j]?=some u->(w.alloc (.cells cs.toArray t)).cell? (no w.heap.size j)=some u:=by
 intro j u hu;have:=Zf w (.cells cs.toArray t);unfold World.cell?;simp only[this];simpa using hu
theorem aD {k:Nat}(hb:Below base w0 w)(h:w.ownsRow base e k v n us)(hle:base<=w.heap.size)(hg:w.grownBy w' v.ownBlock):Below base w0 w':=
 hb.grown hg hle (fun g e'=>(am h e').1)
def Sl (w:Wd)(v:Value)(us:Nb):Prop:=us.length<=9223372036854775807/\∃A c,v =.slice A us.length c/\us.length<=c/\(0<us.length->∃g o,A=some (no g o)/\∀i u,us[i]?=some u->w.cell? ⟨g,o+i,none⟩=some u)
theorem Sl.of_own (h:w.ownsRow base e 1 v n us):Sl w v us:=by
 have hl:us.length=n:=by have:=h.1;omega
 subst hl;obtain⟨A,c,rfl,hc,hm,hA⟩:=ai h;refine⟨by unfold maxLen at hm;omega,A,c,rfl,hc,fun h0=>?_⟩;obtain⟨g,rfl⟩:=hA h0;refine⟨g,0,rfl,fun i u hu=>?_⟩;have hi:=(List.getElem?_eq_some_iff.1 hu).1;rw[Nat.zero_add,World.ownsRow.cellAt h i (by omega)];exact hu
theorem Sl.below (h:Sl w v us)(hb:ge w w'):Sl w' v us:=by
 obtain⟨hm,A,c,e,hc,hA⟩:=h;refine⟨hm,A,c,e,hc,fun h0=>?_⟩;obtain⟨g,o,e,a0⟩:=hA h0;exact⟨g,o,e,fun i u hu=>Zg hb (a0 i u hu)⟩
theorem Sl.drewN (h:Sl w v us)(m:Nat):Sl (w.drewN m) v us:=h
def J6 (w:Wd)(l:List Nc)(e:Ending)(w':Wd):Prop:= ∃v',e =.returned v'/\ge w w'/\cX w' w.heap.size v' l
def Ee (w0:Wd)(l:List Nc)(s3 s4:Value)(wr:Wd):Prop:= ∃k:Nat,k<=l.length/\s4 =(k:Int)/\ge w0 wr/\cX wr w0.heap.size s3 (l.take k)
theorem mE {l:List Nc}(hv:Sl w v (l.map dy))(hl:l.length<=1000000):Calls prog 151 #[v] w (J6 w l):=by
 obtain⟨hm,A,cap,rfl,hc,hA⟩:=id hv;rw[List.length_map] at hm hc hA ⊢;obtain⟨cur,a0,a7⟩:=kV uS l.length (by unfold maxLen;omega) (by omega);have HA:=Qa hA;have a2:=Qa a0;clear hv hA a0;go_in;go_wp2_with fail
 go_loopw [3,4] (Ee w l) (fun _ i _=>l.length - (intOf i).toNat)
 case atStart=>
  exact⟨0,by omega,rfl,aa _ _,by rw[List.take_zero];exact dA (Zf _ _) (Zb _) (by unfold maxLen;omega) a2.out⟩
 case round=>
  obtain⟨k,hk,rfl,hb,ho⟩:=hrel;have Hb:=Qa hb;have Ho:=Qa ho;have hsz:=hb.size;clear hb ho
  by_cases hlt:k<l.length
  .obtain⟨g,o,rfl,a3⟩:=HA (by omega);obtain⟨s,hs⟩:∃s,l[k]?=some s:=⟨_,Zd hlt⟩;have a1:=Zg Hb.out (a3 k (dy s) (by rw[List.getElem?_map,hs];rfl));unfold dy at a1;have Hs:=Qa (show l.take (k+1)=l.take k ++ [s] by rw[List.take_add_one,hs];rfl);have a4:(l.take k).length=k:=by rw[List.length_take];omega
   have a5:=Qa a4;clear hs a4 a3;go_wp2_with (at_builtin;refine ir uS (by have:=Ho.below (aa wr (.cells #[s] 9)) (Zb _);unfold cX at this;rw[a5.out] at this;exact this) (au wr [dy s] 9) (by simp;omega) ?_ (h1:=(by simp[dy,Value.oneCell']));intro v' w1 h1 h2 h3;have Hp:=Qa h1;have Hg:=Qa h2;clear h1 h2 h3);have a6:ge w (wr.alloc (.cells #[s] 9)):=Hb.alloc hsz _;exact⟨⟨k+1,by omega,by go_num,aD a6 (Ho.below (aa wr (.cells #[s] 9)) (Zb _)) a6.size Hg.out,by rw[Hs.out];unfold cX;rw[List.length_append,a5.out,List.map_append];exact Hp.out⟩,by simp[intOf];omega⟩
  .obtain rfl:k=l.length:=by omega
   go_wp2;go_ret;exact⟨_,rfl,Hb,by have:=Ho.out;rwa[List.take_length] at this⟩
def La (w:Wd)(l:List Nat)(e:Ending)(w':Wd):Prop:= ∃v',e =.returned v'/\ge w w'/\bO w' w.heap.size v' l
def Gu (w0:Wd)(l:List Nat)(s3 s4:Value)(wr:Wd):Prop:= ∃k:Nat,k<=l.length/\s4 =(k:Int)/\ge w0 wr/\bO wr w0.heap.size s3 (l.take k)
theorem xR {l:List Nat}(hv:Sl w v (l.map cv))(hl:l.length<=1000000):Calls prog 218 #[v] w (La w l):=by
 obtain⟨hm,A,cap,rfl,hc,hA⟩:=id hv;rw[List.length_map] at hm hc hA ⊢;obtain⟨cur,a0,a7⟩:=kV fD l.length (by unfold maxLen;omega) (by omega);have HA:=Qa hA;have a2:=Qa a0;clear hv hA a0;go_in;go_wp2_with fail
 go_loopw [3,4] (Gu w l) (fun _ i _=>l.length - (intOf i).toNat)
 case atStart=>
  exact⟨0,by omega,rfl,aa _ _,by rw[List.take_zero];exact dA (Zf _ _) (Zb _) (by unfold maxLen;omega) a2.out⟩
 case round=>
  obtain⟨k,hk,rfl,hb,ho⟩:=hrel;have Hb:=Qa hb;have Ho:=Qa ho;have hsz:=hb.size;clear hb ho
  by_cases hlt:k<l.length
  .obtain⟨g,o,rfl,a3⟩:=HA (by omega);obtain⟨s,hs⟩:∃s,l[k]?=some s:=⟨_,Zd hlt⟩;have a1:=Zg Hb.out (a3 k (cv s) (by rw[List.getElem?_map,hs];rfl));unfold cv at a1;have Hs:=Qa (show l.take (k+1)=l.take k ++ [s] by rw[List.take_add_one,hs];rfl);have a4:(l.take k).length=k:=by rw[List.length_take];omega
   have a5:=Qa a4;clear hs a4 a3;go_wp2_with (at_builtin;refine ir fD (by have:=Ho.below (aa wr (.cells #[(s:Int)] 3)) (Zb _);unfold bO at this;rw[a5.out] at this;exact this) (au wr [cv s] 3) (by simp;omega) ?_ (h1:=(by simp[cv,Value.oneCell']));intro v' w1 h1 h2 h3;have Hp:=Qa h1;have Hg:=Qa h2;clear h1 h2 h3);have a6:ge w (wr.alloc (.cells #[(s:Int)] 3)):=Hb.alloc hsz _;exact⟨⟨k+1,by omega,by go_num,aD a6 (Ho.below (aa wr (.cells #[(s:Int)] 3)) (Zb _)) a6.size Hg.out,by rw[Hs.out];unfold bO;rw[List.length_append,a5.out,List.map_append];exact Hp.out⟩,by simp[intOf];omega⟩
  .obtain rfl:k=l.length:=by omega
   go_wp2;go_ret;exact⟨_,rfl,Hb,by have:=Ho.out;rwa[List.take_length] at this⟩
theorem Bh {a b:Nc}:a.toList=b.toList↔a=b:=by
 rw[ByteArray.toList_eq,ByteArray.toList_eq];refine⟨fun h=>?_,fun h=>by rw[h]⟩
 cases a;cases b;simp at h;simp[h]
theorem eF (a b:Nc):(a.toList==b.toList)=decide (a=b):=by
 rw[Bool.eq_iff_iff,beq_iff_eq,decide_eq_true_iff];exact Bh
def Df (d:Dc):Value:=.agg #[.bool d.neg,d.digits,(d.exp:Int)]
def xP (w:Wd)(b:Bool)(e:Ending)(w':Wd):Prop:=e =.returned (.bool b)/\ge w w'
theorem vR (a b:Dc)(w:Wd):Calls prog 32 #[Df a,Df b] w fun e w'=>xP w (decide (a=b)) e w':=by
 obtain⟨an,ad,ae⟩:=a;obtain⟨bn,bd,be⟩:=b;have hd:=Qa (show decide ((⟨an,ad,ae⟩:Dc)= ⟨bn,bd,be⟩)= (an==bn&& ((ad.toList==bd.toList)&&ae==be)) by
  rw[eF,Bool.eq_iff_iff];simp[Dc.mk.injEq])
 unfold Df;go_in;go_wp2_with fail
 all_goals
  go_ret;refine⟨bP ?_,((Ze _ _).alloc (Zb _) _).alloc (by simp) _⟩;rw[hd.out]
  simp_all
def AQ (w:Wd){α:Type}(l m:List α)(s5:Value)(wr:Wd):Prop:= ∃k:Nat,k<=l.length/\s5 =(k:Int)/\(∃j,wr=w.drewN j)/\l.take k=m.take k
theorem qL {l m:List Nc}(hv:Sl w v (l.map dy))(hu:Sl w u (m.map dy)):Calls prog 33 #[v,u] w fun e w'=>xP w (decide (l=m)) e w':=by
 obtain⟨hm,A,cap,rfl,hc,hA⟩:=id hv;obtain⟨b1,A2,cap2,rfl,a6,a3⟩:=id hu;rw[List.length_map] at hm b1 hc a6 hA a3 ⊢;rw[List.length_map];have HA:=Qa hA;have a7:=Qa a3;clear hv hu hA a3
 by_cases hl:l.length=m.length
 .have b0:((l.length:Int) !=m.length)=false:=by simp[hl]
  have Hl:=Qa hl;clear hl;go_in;go_wp2_with fail
  go_loopw [5] (AQ w l m) (fun i _=>l.length - (intOf i).toNat)
  case atStart=>exact⟨0,by omega,rfl,⟨0,rfl⟩,by simp⟩
  case round=>
   obtain⟨k,hk,rfl,⟨j,rfl⟩,ht⟩:=hrel;have Ht:=Qa ht;clear ht
   by_cases hlt:k<l.length
   .have a2:k<m.length:=by rw[<-Hl.out];exact hlt
    obtain⟨g,o,rfl,a4⟩:=HA (by omega);obtain⟨g2,o2,rfl,a0⟩:=a7 (by omega);obtain⟨s,hs⟩:∃s,l[k]?=some s:=⟨_,Zd hlt⟩;obtain⟨s2,a1⟩:∃s,m[k]?=some s:=⟨_,Zd a2⟩;have c1:=a4 k (dy s) (by rw[List.getElem?_map,hs];rfl);have c2:=a0 k (dy s2) (by rw[List.getElem?_map,a1];rfl);unfold dy at c1 c2;have Hs:=Qa (show l.take (k+1)=l.take k ++ [s] by rw[List.take_add_one,hs];rfl);have a5:=Qa (show m.take (k+1)=m.take k ++ [s2] by rw[List.take_add_one,a1];rfl);have hki:(k:Int)<m.length:=by omega
    have a9:(k:Int)<l.length:=by omega
    clear hs a1 a4 a0
    by_cases he:s=s2
    .subst he;go_wp2_with fail;go_quiet (fail);go_wp2_with fail;exact⟨⟨k+1,by omega,by go_num,⟨_,rfl⟩,by rw[Hs.out,a5.out,Ht.out]⟩,by simp[intOf];omega⟩
    .have b2:(s.toList==s2.toList)=false:=by rw[eF];simp[he]
     have He:=Qa he;clear he;go_wp2_with fail;go_quiet (fail);go_wp2;go_ret;refine⟨bP (decide_eq_false (fun h=>He.out ?_)).symm,av (av (Ze _ _) _) _⟩;subst h;have:=Hs.symm.trans a5.out;simpa using this
   .obtain rfl:k=l.length:=by omega
    go_wp2;go_ret;refine⟨bP (decide_eq_true ?_).symm,av (Ze _ _) _⟩;have:=Ht.out
    rwa[List.take_length,Hl.out,List.take_length] at this
 .have b0:((l.length:Int) !=m.length)=true:=by simp;omega
  have Hl:=Qa hl;clear hl;go_in;go_wp2;go_ret;exact⟨bP (decide_eq_false (fun h=>Hl (by rw[h]))).symm,Ze _ _⟩
theorem uz {l m:List Nat}(hv:Sl w v (l.map cv))(hu:Sl w u (m.map cv)):Calls prog 34 #[v,u] w fun e w'=>xP w (decide (l=m)) e w':=by
 obtain⟨hm,A,cap,rfl,hc,hA⟩:=id hv;obtain⟨b1,A2,cap2,rfl,a6,a3⟩:=id hu;rw[List.length_map] at hm b1 hc a6 hA a3 ⊢;rw[List.length_map];have HA:=Qa hA;have a7:=Qa a3;clear hv hu hA a3
 by_cases hl:l.length=m.length
 .have b0:((l.length:Int) !=m.length)=false:=by simp[hl]
  have Hl:=Qa hl;clear hl;go_in;go_wp2_with fail
  go_loopw [5] (AQ w l m) (fun i _=>l.length - (intOf i).toNat)
  case atStart=>exact⟨0,by omega,rfl,⟨0,rfl⟩,by simp⟩
  case round=>
   obtain⟨k,hk,rfl,⟨j,rfl⟩,ht⟩:=hrel;have Ht:=Qa ht;clear ht
   by_cases hlt:k<l.length
   .have a2:k<m.length:=by rw[<-Hl.out];exact hlt
    obtain⟨g,o,rfl,a4⟩:=HA (by omega);obtain⟨g2,o2,rfl,a0⟩:=a7 (by omega);obtain⟨s,hs⟩:∃s,l[k]?=some s:=⟨_,Zd hlt⟩;obtain⟨s2,a1⟩:∃s,m[k]?=some s:=⟨_,Zd a2⟩;have c1:=a4 k (cv s) (by rw[List.getElem?_map,hs];rfl);have c2:=a0 k (cv s2) (by rw[List.getElem?_map,a1];rfl);unfold cv at c1 c2;have Hs:=Qa (show l.take (k+1)=l.take k ++ [s] by rw[List.take_add_one,hs];rfl);have a5:=Qa (show m.take (k+1)=m.take k ++ [s2] by rw[List.take_add_one,a1];rfl);have hki:(k:Int)<m.length:=by omega
    have a9:(k:Int)<l.length:=by omega
    clear hs a1 a4 a0
    by_cases he:s=s2
    .subst he;go_wp2_with fail;go_quiet (fail);go_wp2_with fail;exact⟨⟨k+1,by omega,by go_num,⟨_,rfl⟩,by rw[Hs.out,a5.out,Ht.out]⟩,by simp[intOf];omega⟩
    .have b2:((s:Int)== (s2:Int))=false:=by simp;omega
     have He:=Qa he;clear he;go_wp2_with fail;go_quiet (fail);go_wp2;go_ret;refine⟨bP (decide_eq_false (fun h=>He.out ?_)).symm,av (av (Ze _ _) _) _⟩;subst h;have:=Hs.symm.trans a5.out;simpa using this
   .obtain rfl:k=l.length:=by omega
    go_wp2;go_ret;refine⟨bP (decide_eq_true ?_).symm,av (Ze _ _) _⟩;have:=Ht.out
    rwa[List.take_length,Hl.out,List.take_length] at this
 .have b0:((l.length:Int) !=m.length)=true:=by simp;omega
  have Hl:=Qa hl;clear hl;go_in;go_wp2;go_ret;exact⟨bP (decide_eq_false (fun h=>Hl (by rw[h]))).symm,Ze _ _⟩
abbrev es:Nc:=⟨#[]⟩
theorem EN (hb:ge W w1):∀b o,b<W.heap.size->w1.cell? (no b o)=W.cell? (no b o):=fun b o h=>hb.cell (p:=⟨b,o,none⟩) h
def jk (w:Wd)(x:Nd)(e:Ending)(w':Wd):Prop:= ∃v,e =.returned v/\ge w w'/\bo (w.heap.size<= ·) w' w.heap.size v [x]
theorem jD {x:Nd}(hg:w.heap[g]?=some (.cells cs 74 (0,0)))(hb:base<=g)(hc:cs.toList=aF x vn vk)(h1:cX w 0 vn x.names)(h2:bO w 0 vk x.kids)(h3:vn =.slice none 0 0) :
  bo P w base (.slice (some (nl g)) 1 1) [x]:=by
 subst h3;refine⟨[cs.toList],?_,bC.cons ⟨.slice none 0 0,vk,hc,h1,h2⟩ (bC.nil _),fun u hu g e=>?_⟩
 .have hs:cs.size=8:=by rw[<-Array.length_toList,hc];rfl
  simpa using ft (n:=1) (k:=8) hg hb (by unfold maxLen;omega) (by omega)
 .simp at hu;subst hu;rw[hc] at e;simp[aF,Value.ownBlock] at e
theorem nO (w:Wd):Calls prog 59 #[] w fun e w'=>jk w ⟨1,false,es,⟨false,es,0⟩, [], []⟩ e w':=by
 go_in;go_wp2;go_ret;exact⟨_,rfl,aa _ _,jD (Zf _ _) (Zb _) rfl (cX.nil _ _) (bO.nil _ _) rfl⟩
theorem nM (w:Wd):Calls prog 68 #[] w fun e w'=>jk w ⟨7,false,es,⟨false,es,0⟩, [], []⟩ e w':=by
 go_in;go_wp2;go_ret;exact⟨_,rfl,aa _ _,jD (Zf _ _) (Zb _) rfl (cX.nil _ _) (bO.nil _ _) rfl⟩
theorem nr (b:Bool)(w:Wd):Calls prog 61 #[.bool b] w fun e w'=>jk w ⟨2,b,es,⟨false,es,0⟩, [], []⟩ e w':=by
 go_in;go_wp2;go_ret;exact⟨_,rfl,aa _ _,jD (Zf _ _) (Zb _) rfl (cX.nil _ _) (bO.nil _ _) rfl⟩
theorem nR (s:Nc)(w:Wd):Calls prog 66 #[s] w fun e w'=>jk w ⟨4,false,s,⟨false,es,0⟩, [], []⟩ e w':=by
 go_in;go_wp2;go_ret;exact⟨_,rfl,aa _ _,jD (Zf _ _) (Zb _) rfl (cX.nil _ _) (bO.nil _ _) rfl⟩
theorem kF (d:Dc)(w:Wd):Calls prog 63 #[Df d] w (jk w ⟨3,false,es,d, [], []⟩):=by
 obtain⟨a,b,c⟩:=d;unfold Df;go_in;go_wp2;go_ret;exact⟨_,rfl,((Ze _ _).alloc (Zb _) _).alloc (by simp) _,jD (cs:= #[.int .i64 3,.bool false,.string es,.bool a,.string b,.int .i64 c,.slice none 0 0,.slice none 0 0]) (by have:=Zf (w.alloc (.cells #[.bool a,b,(c:Int)] 71)) (.cells #[(3:Int),false,es,.bool a,b,(c:Int),(),()] 74);rw[World.size_alloc] at this;exact this) (by omega) rfl (cX.nil _ _) (bO.nil _ _) rfl⟩
def E7 {w:Wd}(ns ms:List Nd)(s5:Value)(wr:Wd):Prop:= ∃k:Nat,k<=ns.length/\s5 =(k:Int)/\ge w wr/\ns.take k=ms.take k
theorem sK {ns ms:List Nd}(hv:cS w 0 v ns)(hu:cS w 0 u ms):Calls prog 10 #[v,u] w fun e w'=>xP w (decide (ns=ms)) e w':=by
 obtain⟨A,cap,rfl,hc,hm,hA⟩:=hv.form;obtain⟨A2,cap2,rfl,f1,e7,d9⟩:=hu.form;have HA:=Qa hA;have e3:=Qa d9;have Hv:=Qa hv;have Hu:=Qa hu;clear hv hu hA d9;unfold maxLen at hm e7
 by_cases hl:ns.length=ms.length
 .have e5:((ns.length:Int) !=ms.length)=false:=by simp[hl]
  have Hl:=Qa hl;clear hl;go_in;go_wp2_with fail
  go_loopw [5] (E7 (w:=w) ns ms) (fun i _=>ns.length - (intOf i).toNat)
  case atStart=>exact⟨0,by omega,rfl,Ze _ _,by simp⟩
  case round=>
   obtain⟨k,hk,rfl,hb,ht⟩:=hrel;have Ht:=Qa ht;have Hb:=Qa hb;clear ht hb
   by_cases hlt:k<ns.length
   .have b0:k<ms.length:=by rw[<-Hl.out];exact hlt
    obtain⟨g,rfl⟩:=HA (by omega);obtain⟨g2,rfl⟩:=e3 (by omega);obtain⟨x,hx⟩:∃s,ns[k]?=some s:=⟨_,Zd hlt⟩;obtain⟨y,hy⟩:∃s,ms[k]?=some s:=⟨_,Zd b0⟩;have Hs:=Qa (show ns.take (k+1)=ns.take k ++ [x] by rw[List.take_add_one,hx];rfl);have b9:=Qa (show ms.take (k+1)=ms.take k ++ [y] by rw[List.take_add_one,hy];rfl);obtain⟨vn,vk,h1,h2,h3⟩:=(Hv.below Hb (Zb _)).node hx;obtain⟨vn2,vk2,h4,h5,h6⟩:=(Hu.below Hb (Zb _)).node hy;obtain⟨xk,xt,xx,⟨xn1,xn2,xn3⟩,xns,xks⟩:=x;obtain⟨yk,yt,yx,⟨yn1,yn2,yn3⟩,yns,yks⟩:=y;have c0:=h3 0 _ rfl;have c1:=h3 1 _ rfl;have c2:=h3 2 _ rfl;have c3:=h3 3 _ rfl;have c4:=h3 4 _ rfl;have c5:=h3 5 _ rfl;have c6:=h3 6 _ rfl;have c7:=h3 7 _ rfl;have d0:=h6 0 _ rfl;have d1:=h6 1 _ rfl;have d2:=h6 2 _ rfl;have d3:=h6 3 _ rfl;have d4:=h6 4 _ rfl;have d5:=h6 5 _ rfl;have d6:=h6 6 _ rfl;have d7:=h6 7 _ rfl;have hki:(k:Int)<ms.length:=by omega
    have e8:(k:Int)<ns.length:=by omega
    clear h3 h6 hx hy;go_wp2_with fail;go_still_tail 10,(by kernel_rfl);change wpList _ _ _ _ _ wr.drew;go_wp2_with fail;refine(vR ⟨xn1,xn2,xn3⟩ ⟨yn1,yn2,yn3⟩ _).mono ?_;rintro e w1 ⟨rfl,c9⟩;have a1:ge wr w1:=((Ze wr.heap.size wr).drew).trans c9;have e4:=EN a1;have hg:g<wr.heap.size:=World.block_lt_of_cell? wr _ c0;have e6:g2<wr.heap.size:=World.block_lt_of_cell? wr _ d0;have a6:=Qa a1;clear c9 a1;obtain⟨b6,b2⟩:∃b,decide ((⟨xn1,xn2,xn3⟩:Dc)= ⟨yn1,yn2,yn3⟩)=b:=⟨_,rfl⟩;have c8:=Qa b2;rw[b2];clear b2;go_wp2_with fail;go_still_tail 10,(by kernel_rfl);change wpList _ _ _ _ _ w1.drew;go_wp2_with fail;refine(qL ((Sl.of_own h1).below (a6.drew)) ((Sl.of_own h4).below (a6.drew))).mono ?_;rintro e w2 ⟨rfl,e1⟩;have a2:ge wr w2:=a6.trans (((Ze w1.heap.size w1).drew.trans e1).mono a6.size);have a7:=Qa a2;have b1:=EN a2;clear e1 a2 e4;obtain⟨b7,a9⟩:∃b,decide (xns=yns)=b:=⟨_,rfl⟩;have b4:=Qa a9;rw[a9];clear a9;go_wp2_with fail;go_still_tail 10,(by kernel_rfl);change wpList _ _ _ _ _ w2.drew;go_wp2_with fail;refine(uz ((Sl.of_own h2).below (a7.drew)) ((Sl.of_own h5).below (a7.drew))).mono ?_;rintro e w3 ⟨rfl,e2⟩;have a3:ge wr w3:=a7.trans (((Ze w2.heap.size w2).drew.trans e2).mono a7.size);have a0:=Qa a3;have a5:=EN a3;clear e2 a3 b1;obtain⟨b8,b3⟩:∃b,decide (xks=yks)=b:=⟨_,rfl⟩;have b5:=Qa b3;rw[b3];clear b3;have a4:Hid (¬ ((⟨xk,xt,xx,⟨xn1,xn2,xn3⟩,xns,xks⟩:Nd)= ⟨yk,yt,yx,⟨yn1,yn2,yn3⟩,yns,yks⟩)->ns≠ms):=Qa (fun h e=>h (by
     subst e;have:=Hs.symm.trans b9.out;simpa using this))
    go_wp2_with fail;have e0:∀n,(w3.drewN n).cell? ⟨g,k*8,none⟩=some (.int .i64 xk):=fun n=>(a5 g (k*8) hg).trans c0
    have f0:∀n,(w3.drewN n).cell? ⟨g2,k*8,none⟩=some (.int .i64 yk):=fun n=>(a5 g2 (k*8) e6).trans d0
    cases b6
    .go_quiet (fail);go_wp2;go_ret;exact⟨bP (decide_eq_false (a4 (fun e=>by simp only[Nd.mk.injEq] at e;exact of_decide_eq_false c8.out e.2.2.2.1))).symm,Hb.trans ((av a0 _).mono Hb.size)⟩
    cases b7
    .go_quiet (fail);go_wp2;go_ret;exact⟨bP (decide_eq_false (a4 (fun e=>by simp only[Nd.mk.injEq] at e;exact of_decide_eq_false b4.out e.2.2.2.2.1))).symm,Hb.trans ((av a0 _).mono Hb.size)⟩
    cases b8
    .go_quiet (fail);go_wp2;go_ret;exact⟨bP (decide_eq_false (a4 (fun e=>by simp only[Nd.mk.injEq] at e;exact of_decide_eq_false b5.out e.2.2.2.2.2))).symm,Hb.trans ((av a0 _).mono Hb.size)⟩
    by_cases q1:xk=yk
    case neg=>
     have t1:(xk !=yk)=true:=by simpa using q1
     have Q1:=Qa q1;clear q1;go_quiet (fail);go_wp2;go_ret;exact⟨bP (decide_eq_false (a4 (fun e=>by simp only[Nd.mk.injEq] at e;exact Q1 e.1))).symm,Hb.trans ((av a0 _).mono Hb.size)⟩
    subst q1
    by_cases q2:xt=yt
    case neg=>
     have Q2:=Qa q2
     cases xt <;> cases yt
     .exact absurd rfl q2
     .clear q2;go_quiet (fail);go_wp2;go_ret;exact⟨bP (decide_eq_false (a4 (fun e=>by simp only[Nd.mk.injEq] at e;exact Q2 e.2.1))).symm,Hb.trans ((av a0 _).mono Hb.size)⟩
     .clear q2;go_quiet (fail);go_wp2;go_ret;exact⟨bP (decide_eq_false (a4 (fun e=>by simp only[Nd.mk.injEq] at e;exact Q2 e.2.1))).symm,Hb.trans ((av a0 _).mono Hb.size)⟩
     .exact absurd rfl q2
    subst q2
    by_cases q3:xx=yx
    case neg=>
     have t1:(xx.toList==yx.toList)=false:=by rw[eF];exact decide_eq_false q3
     have Q3:=Qa q3;clear q3;go_quiet (fail);go_wp2;go_ret;exact⟨bP (decide_eq_false (a4 (fun e=>by simp only[Nd.mk.injEq] at e;exact Q3 e.2.2.1))).symm,Hb.trans ((av a0 _).mono Hb.size)⟩
    subst q3;go_quiet (fail);go_wp2_with fail;refine⟨⟨k+1,by omega,by go_num,Hb.trans ((av a0 _).mono Hb.size),?_⟩,by simp[intOf];omega⟩;rw[Hs.out,b9.out,Ht.out];have h1:=of_decide_eq_true c8.out;have h2:=of_decide_eq_true b4.out;have h3:=of_decide_eq_true b5.out;rw[h1,h2,h3]
   .obtain rfl:k=ns.length:=by omega
    go_wp2;go_ret;refine⟨bP (decide_eq_true ?_).symm,Hb⟩;have:=Ht.out
    rwa[List.take_length,Hl.out,List.take_length] at this
 .have e5:((ns.length:Int) !=ms.length)=true:=by simp;omega
  have Hl:=Qa hl;clear hl;go_in;go_wp2;go_ret;exact⟨bP (decide_eq_false (fun h=>Hl (by rw[h]))).symm,Ze _ _⟩
def fQ (w:Wd)(v:Value)(fs:List (List Nd)):Prop:= ∃vs:Nb,Sl w v vs/\bC (fun v ns=>cS w 0 v ns) vs fs
theorem fQ.below {fs:List (List Nd)}(h:fQ w v fs)(hb:ge w w'):fQ w' v fs:=by
 obtain⟨vs,h1,h2⟩:=h;exact⟨vs,h1.below hb,h2.mono fun _ _ h=>h.below hb (Zb _)⟩
def yX (vk:Value)(us:List (Nb)):Prop:= ∀u∈us,∀g,(u.getD 7 undef).ownBlock=some g->vk.ownBlock≠some g
def gE (W:Wd)(base:Nat)(v:Value)(x:Nd)(rest:List Nd):Prop:=
 ∃vn vk us,W.ownsRow base 74 8 v (1+rest.length) (aF x vn vk++us.flatten)/\cX W 0 vn x.names/\bO W base vk x.kids/\bC (iE W) us rest/\yX vk us/\pB (base<= ·) (aF x vn vk::us)
theorem gE.flat {x:Nd}{rest:List Nd}(h:gE W base v x rest):bo (base<= ·) W base v (x::rest):=by
 obtain⟨vn,vk,us,h1,h2,h3,h4,_,h6⟩:=h;exact⟨aF x vn vk::us,by rw[List.length_cons,Nat.add_comm];exact h1,bC.cons ⟨vn,vk,rfl,h2,h3.low (Zk _)⟩ h4,h6⟩
theorem gE.below {x:Nd}{rest:List Nd}(h:gE W base v x rest)(hb:ge W W'):gE W' base v x rest:=by
 obtain⟨vn,vk,us,h1,h2,h3,h4,h5,h6⟩:=h;exact⟨vn,vk,us,aq h1 hb (Zb _),h2.below hb (Zb _),h3.below hb (Zb _),h4.mono fun _ _ h=>h.below hb (Zb _),h5,h6⟩
theorem gL {row:Option Nat}(hg:W.grownBy W' row)(hr:∀g,row=some g->nF W g 74){u:Nb}{x:Nd}(h:iE W u x):iE W' u x:=
 h.keeps (T:=fun t=>t=74) (aK.of_grown hg (fun g e cs t z hh=>by obtain⟨cs',z',h'⟩:=hr g e;rw[h'] at hh;injection hh with hh;injection hh with _ hh;exact hh.symm)) (by decide) (by decide)
theorem pT {row:Option Nat}(hg:W.grownBy W' row)(hr:∀g,row=some g->nF W g 74){b:Nat}{l:List Nc}(h:cX W b v l):cX W' b v l:=
 ap (T:=fun t=>t=74) h (aK.of_grown hg (fun g e cs t z hh=>by obtain⟨cs',z',h'⟩:=hr g e;rw[h'] at hh;injection hh with hh;injection hh with _ hh;exact hh.symm)) (by decide)
theorem pL {row:Option Nat}(hg:W.grownBy W' row)(hr:∀g,row=some g->nF W g 74){b:Nat}{l:List Nat}(h:bO W b v l):bO W' b v l:=
 ap (T:=fun t=>t=74) h (aK.of_grown hg (fun g e cs t z hh=>by obtain⟨cs',z',h'⟩:=hr g e;rw[h'] at hh;injection hh with hh;injection hh with _ hh;exact hh.symm)) (by decide)
theorem cK {k:Nat}(h:W.ownsRow base e k v n us):∀g,v.ownBlock=some g->nF W g e:=fun g hg=>by
 obtain⟨_,cur,hh⟩:=am h hg;exact⟨cur,_,hh⟩
theorem gE.snoc {vn':Value}{x y:Nd}{rest:List Nd}{us:List (Nb)}(h1:W.ownsRow base 74 8 v m (aF x vn vk++us.flatten))(h2:cX W 0 vn x.names)(h3:bO W base vk x.kids)
  (h4:bC (iE W) us rest) (h5:yX vk us) (hN:pB (base<= ·) (aF x vn vk::us)) (a0:∀g,vn'.ownBlock=some g->base<=g) (hm:m=1+rest.length) (hy:iE W (aF y vn' vk') y) (hk:∀g,vk'.ownBlock=some g->vk.ownBlock≠some g)
  (h6:W'.ownsRow base 74 8 v' (m+1) ((aF x vn vk++us.flatten)++aF y vn' vk')) (hg:W.grownBy W' v.ownBlock):gE W' base v' x (rest ++ [y]):=by
 subst hm;have ht:=cK h1;refine⟨vn,vk,us ++ [aF y vn' vk'],?_,pT hg ht h2,pL hg ht h3,(h4.mono fun _ _ h=>gL hg ht h).snoc (gL hg ht hy),fun u hu g e=>?_,fun u hu g e=>?_⟩
 .rw[List.length_append,List.flatten_append];simpa [Nat.add_assoc] using h6
 .rcases List.mem_append.1 hu with hu|hu
  .exact h5 u hu g e
  .rw[List.mem_singleton] at hu;subst hu;exact hk g e
 .rcases List.mem_cons.1 hu with hu|hu
  .exact hN u (by simp[hu]) g e
  .rcases List.mem_append.1 hu with hu|hu
   .exact hN u (Zm _ hu) g e
   .rw[List.mem_singleton] at hu;subst hu;exact a0 g (by simpa [aF] using e)
theorem yz {g7:Nat}{x:Nd}{rest:List Nd}{us:List (Nb)}(h1:W.ownsRow base 74 8 (.slice (some (nl g7)) n cap) n (aF x vn vk++us.flatten))(h2:cX W 0 vn x.names)
  (h4:bC (iE W) us rest) (h5:yX vk us) (hN:pB (base<= ·) (aF x vn vk::us)) (hn:n=1+rest.length) (h6:bO W2 base vk' (x.kids ++ [m])) (hg:W.grownBy W2 vk.ownBlock) (hk:vk'.ownBlock=vk.ownBlock\/vk'.ownBlock=some W.heap.size)
  (hv:∀g,vk.ownBlock=some g->nF W g 3) :
  gE (W2.setCell (no g7 7) vk') base (.slice (some (nl g7)) n cap) {x with kids:=x.kids ++ [m]} rest:=by
 have hr:W2.ownsRow base 74 8 (.slice (some (nl g7)) n cap) n (aF x vn vk++us.flatten):=ap (T:=fun t=>t=3) h1 (aK.of_grown hg (fun g e cs t z hh=>by obtain⟨cs',z',h'⟩:=hv g e;rw[h'] at hh;injection hh with hh;injection hh with _ hh;exact hh.symm)) (by decide);obtain⟨a5,a1⟩:=World.ownsRow.stored hr 7 vk';have ht:∀g,some g7=some g->nF W2 g 74:=fun g e=>by injection e with e;subst e;exact cK hr _ rfl
 have a0:cX W2 0 vn x.names:=ap (T:=fun t=>t=3) h2 (aK.of_grown hg (fun g e cs t z hh=>by obtain⟨cs',z',h'⟩:=hv g e;rw[h'] at hh;injection hh with hh;injection hh with _ hh;exact hh.symm)) (by decide);have a3:∀u∈us,∀g,(u.getD 7 undef).ownBlock=some g->g<W.heap.size:=fun u hu g e=>by
  obtain⟨i,hi,rfl⟩:=List.getElem_of_mem hu;obtain⟨vn2,vk2,e2,_,a4⟩:=h4.2 i us[i] (rest[i]'(by rw[<-h4.1];exact hi)) (Zd hi) (Zd _);rw[e2] at e;exact(World.ownsRow.lt a4 g (by simpa [aF] using e)).2
 have a2:bC (iE W2) us rest:=⟨h4.1,fun i u y hu hy=>by
  obtain⟨vn2,vk2,e2,a1,a4⟩:=h4.2 i u y hu hy;refine⟨vn2,vk2,e2,ap (T:=fun t=>t=3) a1 (aK.of_grown hg (fun g e cs t z hh=>by obtain⟨cs',z',h'⟩:=hv g e;rw[h'] at hh;injection hh with hh;injection hh with _ hh;exact hh.symm)) (by decide),World.ownsRow.kept a4 hg ?_⟩
  cases hb:vk2.ownBlock with
  |none=>exact .inl rfl
  |some g=>exact .inr (fun e=>h5 u (Zl hu) g (by rw[e2];simpa [aF] using hb) e.symm)⟩
 refine⟨vn,vk',us,?_,pT a1 ht a0,pL a1 ht h6,a2.mono fun _ _ h=>gL a1 ht h,fun u hu g e=>?_,fun u hu g e=>?_⟩
 .rw[<-hn];have e:(aF x vn vk++us.flatten).set 7 vk'=aF {x with kids:=x.kids ++ [m]} vn vk'++us.flatten:=rfl;rw[<-e];exact a5
 .rcases hk with hk|hk
  .rw[hk];exact h5 u hu g e
  .rw[hk];have:=a3 u hu g e;intro e';injection e' with e';omega
 .rcases List.mem_cons.1 hu with hu|hu
  .exact hN (aF x vn vk) (by simp) g (by rw[hu] at e;simpa [aF] using e)
  .exact hN u (Zm _ hu) g e
