import Derived.Test.YtpkdfmjdhmpopaaGreatDoorGZ3bt
set_option linter.unusedVariables false
set_option linter.unusedSimpArgs false
set_option maxHeartbeats 64000000
set_option maxRecDepth 100000
namespace Go.Proofs.YtpkdfmjdhmpopaaGreatDoor
open Go.RowKit Go.Shelf
variable {s : ByteArray} {j : JV} {base c g gr gt k n : Nat} {F P : Nat -> Prop} {A : Option Addr} {t : TypeId} {T : TypeId -> Prop} {v x : Value} {w w2 w5 : World}
theorem Fy:dM 92 105 .nilIface 1 16:=⟨Tryz.underlying92,by kernel_rfl,rfl,by decide⟩
abbrev Ih (g:Nat):Value:= .iface 95 (.pointer (some ⟨g,0,none⟩))
abbrev AZ (g:Nat):Value:= .iface 99 (.pointer (some ⟨g,0,none⟩))
def dJ (m:Nat×Value):List Nat:=m.1::m.2.ownBlock.toList
inductive k7 (P:Nat->Prop) (B:Nat) (w:World):Value->Fr->Nat×Value->Prop
 | row (g:Nat) (A:Option Addr) (c:Nat) (us:List Value) (its:List JV):B<=g->w.heap[g]?=some (.cells #[.slice A us.length c] 98 (0,0))->w.ownsRow B 32 1 (.slice A us.length c) us.length us->bB (VW P w) us its->k7 P B w (Ih g) ⟨false,its, [],none⟩ (g, .slice A us.length c)
 | table (g:Nat) (A:Option Addr) (c:Nat) (L:List (ByteArray×Value)) (ms:List (ByteArray×JV)) (s:ByteArray) (nm:Option ByteArray):B<=g->w.heap[g]?=some (.cells #[.slice A L.length c, .string s, .bool nm.isSome] 102 (0,0))->xa w B (.slice A L.length c) L->L.map Prod.fst=ms.map Prod.fst->bB (VW P w) (L.map Prod.snd) (ms.map Prod.snd)->(∀t,nm=some t->s=t)->k7 P B w (AZ g) ⟨true, [],ms,nm⟩ (g, .slice A L.length c)
def TX (e:TypeId):Prop:=TV e\/e=98\/e=102
theorem gR:¬TX 94:=by rintro((h | h | h | h) | h | h) <;> exact absurd h (by decide)
theorem yb:¬TX 105:=by rintro((h | h | h | h) | h | h) <;> exact absurd h (by decide)
def Mw (top:List Nat)(w w':World):Prop:=w.heap.size<=w'.heap.size/\∀ (g:Nat) (cs:Array Value) (e:TypeId) (z:Nat×Nat),w.heap[g]?=some (.cells cs e z)->TX e->g∉top->w'.heap[g]?=some (.cells cs e z)
section
variable {B g c : Nat} {w w' : World} {bs bs' top : List Nat} {A : Option Addr} {dv u : Value} {f f' : Fr} {fs frs : List Fr} {done : Option JV} {m m' : Nat × Value} {us : List (Value × Nat × Value)}
theorem Mw.mv (h:Mw top w w'):Mv top w w':=⟨h.1,fun g cs e z hg he ht=>h.2 g cs e z hg (.inl he) ht⟩
theorem Mw.of_below (h:Below w.heap.size w w'):Mw top w w':=⟨h.size,fun g cs e z hg _ _=>(h.block g (ae hg)).trans hg⟩
theorem Mw.of_kp (h:Kp T w w')(hT:∀e,TX e->¬T e):Mw top w w':=⟨h.1,fun g cs e z hg he _=>h.heap hg (hT e he)⟩
theorem Mw.of_chg (h:bl F w w')(hF:∀g,F g->g<w.heap.size->g∈top\/∃cs e z,w.heap[g]?=some (.cells cs e z)/\¬TX e):Mw top w w':=by
 refine⟨h.size,fun g cs e z hg he ht=>(h.block g (ae hg) fun hf=> ?_).trans hg⟩;rcases hF g hf (ae hg) with h1 | ⟨cs',e',z',h1,h2⟩
 ·exact ht h1
 ·rw [h1] at hg
  injection hg with hg
  injection hg with _ hg _
  subst hg;exact h2 he
theorem k7.typed (h:k7 P B w u f m)(hk:k∈dJ m):B<=k/\∃cs e z,w.heap[k]?=some (.cells cs e z)/\TX e:=by
 cases h with
 | row g A c us its h1 h2 h3 h4=>
  simp only [dJ,List.mem_cons,Option.mem_toList] at hk;rcases hk with rfl | hk
  ·exact⟨h1,_,_,_,h2, .inr (.inl rfl)⟩
  ·obtain⟨q1,cur,q2⟩:=ak h3 hk
   exact⟨q1,_,_,_,q2, .inl (.inr (.inr (.inl rfl)))⟩
 | table g A c L ms s nm h1 h2 h3 h4 h5 h6=>
  simp only [dJ,List.mem_cons,Option.mem_toList] at hk;rcases hk with rfl | hk
  ·exact⟨h1,_,_,_,h2, .inr (.inr rfl)⟩
  ·obtain⟨q1,cur,q2⟩:=ak h3 hk
   exact⟨q1,_,_,_,q2, .inl (.inr (.inr (.inr rfl)))⟩
theorem k7.move (h:k7 (Pb B bs) B w u f m)(hm:Mw top w w')(ht:∀g∈top,g∈bs)(a0:∀g∈bs',g∈bs\/w.heap.size<=g)(hu:∀g∈dJ m,g∉top):k7 (Pb B bs') B w' u f m:=by
 cases h with
 | row g A c us its h1 h2 h3 h4=>exact .row g A c us its h1 (hm.2 g _ _ _ h2 (.inr (.inl rfl)) (hu g (by simp [dJ]))) (kF h3 hm.mv (.inr (.inr (.inl rfl))) fun b hb=>hu b (by simp [dJ,hb])) (h4.mono fun _ _ h=>h.move hm.mv ht a0)
 | table g A c L ms s nm h1 h2 h3 h4 h5 h6=>exact .table g A c L ms s nm h1 (hm.2 g _ _ _ h2 (.inr (.inr rfl)) (hu g (by simp [dJ]))) (kF h3 hm.mv (.inr (.inr (.inr rfl))) fun b hb=>hu b (by simp [dJ,hb])) h4 (h5.mono fun _ _ h=>h.move hm.mv ht a0) h6
structure kl (B:Nat) (w:World) (g:Nat) (frs:List Fr) (done:Option JV) (A:Option Addr) (c:Nat) (dv:Value) (us:List (Value×Nat×Value)) (bs:List Nat):Prop where
 row:w.heap[g]?=some (.cells #[.slice A us.length c,dv] 94 (0,0))
 low:B<=g
 own:w.ownsRow B 105 1 (.slice A us.length c) us.length (us.map Prod.fst).reverse
 frames:bB (fun u f=>k7 (Pb B bs) B w u.1 f u.2) us frs
 blocks:us.flatMap (fun u=>dJ u.2)=bs
 nodup:bs.Nodup
 done:nz (Pb B bs) w dv done
def sS (B:Nat)(w:World)(g:Nat)(frs:List Fr)(done:Option JV)(bs:List Nat):Prop:= ∃A c dv us,kl B w g frs done A c dv us bs
theorem kl.typed (h:kl B w g frs done A c dv us bs)(hk:k∈bs):B<=k/\∃cs e z,w.heap[k]?=some (.cells cs e z)/\TX e:=by
 rw [<- h.blocks] at hk;obtain⟨x,hx,a0⟩:=List.mem_flatMap.1 hk;obtain⟨i,hi,rfl⟩:=List.getElem_of_mem hx;have hl:=h.frames.1;exact(h.frames.2 i us[i] (frs[i]'(by omega)) (Zc hi) (Zc _)).typed a0
theorem kl.lt (h:kl B w g frs done A c dv us bs):∀k∈bs,k<w.heap.size:=fun k hk=>by obtain⟨_,cs,e,z,h1,_⟩:=h.typed hk;exact ae h1
theorem sS.lt (h:sS B w g frs done bs):∀k∈bs,k<w.heap.size:=by obtain⟨_,_,_,_,h⟩:=h;exact h.lt
theorem kl.apart (h:kl B w g frs done A c dv us bs):g∉bs/\∀b,(Value.slice A us.length c).ownBlock=some b->b∉bs/\b≠g:=by
 refine⟨fun hk=> ?_,fun b hb=>⟨fun hk=> ?_,fun e=> ?_⟩⟩
 ·obtain⟨_,cs,e,z,h1,h2⟩:=h.typed hk
  rw [h.row] at h1;injection h1 with h1
  injection h1 with _ h1 _
  exact gR (h1▸h2)
 ·obtain⟨_,cs,e,z,h1,h2⟩:=h.typed hk
  obtain⟨_,cur,h3⟩:=ak h.own hb;rw [h3] at h1;injection h1 with h1
  injection h1 with _ h1 _
  exact yb (h1▸h2)
 ·obtain⟨_,cur,h3⟩:=ak h.own hb
  rw [e,h.row] at h3;injection h3 with h3
  injection h3 with _ h3 _
  exact absurd h3 (by decide)
theorem kl.move (h:kl B w g frs done A c dv us bs)(hm:Mw [] w w')(hg:w'.heap[g]?=w.heap[g]?)(ho:∀b,(Value.slice A us.length c).ownBlock=some b->w'.heap[b]?=w.heap[b]?):kl B w' g frs done A c dv us bs:=
 have a0:∀k∈bs,k∈bs\/w.heap.size<=k:=fun k hk=> .inl hk
 ⟨hg.trans h.row,h.low,bC h.own ho,h.frames.mono fun _ _ h=>h.move hm (by simp) a0 (by simp),h.blocks,h.nodup,h.done.move hm.mv (by simp) a0⟩
theorem kl.below (h:kl B w g frs done A c dv us bs)(hb:Below w.heap.size w w'):kl B w' g frs done A c dv us bs:=
 h.move (Mw.of_below hb) (hb.block g (ae h.row)) fun b a0=>by obtain⟨_,cur,h3⟩:=ak h.own a0;exact hb.block b (ae h3)
theorem sS.below (h:sS B w g frs done bs)(hb:Below w.heap.size w w'):sS B w' g frs done bs:=by obtain⟨A,c,dv,us,h⟩:=h;exact⟨A,c,dv,us,h.below hb⟩
theorem kl.empty (h:kl B w g [] done A c dv us bs):us = []/\bs = []:=by
 have:=h.frames.1;obtain rfl:=List.eq_nil_of_length_eq_zero (show us.length=0 by simpa using this);exact⟨rfl,h.blocks.symm⟩
theorem kl.innermost (h:kl B w g (f::fs) done A c dv us bs):∃u m us',us= (u,m)::us'/\k7 (Pb B bs) B w u f m/\us'.length=fs.length:=by
 cases us with
 | nil=>have:=h.frames.1;simp at this
 | cons x us=>exact⟨x.1,x.2,us,rfl,h.frames.2 0 _ _ rfl rfl,by have:=h.frames.1;simpa using this⟩
theorem kl.swap (h:kl B w g (f::fs) done A c dv ((u,m)::us) bs)(hc:bl F w w')(hF:∀k,F k->k∈dJ m)
  (hn:∀k∈dJ m',k∈dJ m\/w.heap.size<=k) (a4: (dJ m').Nodup)
  (hw:∀bs',Mw (dJ m) w w'->(∀k∈bs',k∈bs\/w.heap.size<=k)->(∀k∈dJ m,k∈bs)->k7 (Pb B bs') B w' u f' m') :
  ∃bs',kl B w' g (f'::fs) done A c dv ((u,m')::us) bs':=by
 obtain⟨ap1,ap2⟩:=h.apart;have a0:∀k∈dJ m,k∈bs:=fun k hk=>by rw [<- h.blocks];exact List.mem_append_left _ hk
 have hm:Mw (dJ m) w w':=Mw.of_chg hc fun k hk _=> .inl (hF k hk)
 have a2:∀k∈dJ m'++us.flatMap (fun u=>dJ u.2),k∈bs\/w.heap.size<=k:=fun k hk=>by
  rcases List.mem_append.1 hk with hk | hk
  ·exact(hn k hk).imp (a0 k) id
  ·exact .inl (by rw [<- h.blocks];exact List.mem_append_right _ hk)
 have a1:=h.nodup;rw [<- h.blocks,List.flatMap_cons,List.nodup_append] at a1;obtain⟨n1,n2,n3⟩:=a1;refine⟨dJ m'++us.flatMap (fun u=>dJ u.2),(hc.block g (ae h.row) fun hf=>ap1 (a0 g (hF g hf))).trans h.row,h.low,bC h.own fun b hb=> ?_,⟨by simpa using h.frames.1,fun i a b h1 h2=> ?_⟩,rfl, ?_,h.done.move hm.mv a0 a2⟩
 ·obtain⟨_,cur,h3⟩:=ak h.own hb
  exact hc.block b (ae h3) fun hf=>(ap2 b hb).1 (a0 b (hF b hf))
 ·cases i with
  | zero=>
   simp only [List.getElem?_cons_zero,Option.some.injEq] at h1 h2;subst h1 h2;exact hw _ hm a2 a0
  | succ i=>
   have a3:us[i]?=some a:=by simpa using h1
   have:=h.frames.2 (i+1) a b (by simpa using h1) (by simpa using h2);exact this.move hm a0 a2 fun k hk a5=>n3 k a5 k (List.mem_flatMap.2 ⟨a,Zk a3,hk⟩) rfl
 ·rw [List.nodup_append]
  refine⟨a4,n2,fun a ha b hb e=> ?_⟩;subst e;rcases hn a ha with h1 | h1
  ·exact n3 a h1 a hb rfl
  ·have:=h.lt a (by rw [<- h.blocks];exact List.mem_append_right _ hb)
   omega
theorem kl.pop (h:kl B w g (f::fs) done A c dv ((u,m)::us) bs):kl B (w.setCell ⟨g,0,none⟩ (.slice A us.length c)) g fs done A c dv us (us.flatMap fun u=>dJ u.2):=by
 obtain⟨ap1,ap2⟩:=h.apart;have hc:=bl.set (w:=w) g 0 (.slice A us.length c);have hm:Mw [] w (w.setCell ⟨g,0,none⟩ (.slice A us.length c)):=Mw.of_chg hc fun k hk _=> .inr (by subst hk;exact⟨_,_,_,h.row,gR⟩)
 have a1:∀k∈us.flatMap (fun u=>dJ u.2),k∈bs\/w.heap.size<=k:=fun k hk=> .inl (by rw [<- h.blocks];exact List.mem_append_right _ hk)
 have a0:=h.nodup;rw [<- h.blocks,List.flatMap_cons,List.nodup_append] at a0;have ho:=h.own;rw [List.map_cons,List.reverse_cons,List.length_cons] at ho;refine⟨ay h.row 0 _,h.low,bC (kf ho (by simp)) fun b hb=> ?_,⟨by simpa using h.frames.1,fun i a b h1 h2=> ?_⟩,rfl,a0.2.1,h.done.move hm.mv (by simp) a1⟩
 ·have a2: (Value.slice A (us.length+1) c).ownBlock=some b:=by
   cases A with
   | none=>simp [Value.ownBlock] at hb
   | some a=>simpa [Value.ownBlock] using hb
  obtain⟨_,cur,h3⟩:=ak ho a2;exact hc.block b (ae h3) (ap2 b a2).2
 ·exact(h.frames.2 (i+1) a b (by simpa using h1) (by simpa using h2)).move hm (by simp) a1 (by simp)
end
def sm (w:World)(base g:Nat)(A:Option Addr)(c n:Nat)(s:ByteArray)(xs:List Value)(v:Value)(w':World):Prop:= ∃A' q,w'.heap[g]?=some (.cells #[.slice A' (n+1) q, .string s, .bool false] 102 (0,0))/\w'.ownsRow base 109 2 (.slice A' (n+1) q) (n+1) (xs ++ [.string s,v])/\bl (fun k=>k=g\/(Value.slice A n c).ownBlock=some k) w w'/\((Value.slice A' (n+1) q).ownBlock= (Value.slice A n c).ownBlock\/∃b,(Value.slice A' (n+1) q).ownBlock=some b/\w.heap.size<=b)
theorem rj {xs:List Value}{b:Bool}(h:w.heap[g]?=some (.cells #[.slice A n c, .string s, .bool b] 102 (0,0)))(ho:w.ownsRow base 109 2 (.slice A n c) n xs)(hb:base<=w.heap.size)(hl:n<=1000000000) :
  Calls Tryz.prog 296 #[.pointer (some ⟨g,0,none⟩), .iface t x] w fun e w'=>e = .returned (.tuple #[])/\sm w base g A c n s xs (.iface t x) w':=by
 obtain⟨wr,a2⟩:∃wr,w.drew=wr:=⟨_,rfl⟩;have a3:Below w.heap.size w wr:=by rw [<- a2];exact(Zd _ _).drew
 have b0:wr.heap.size=w.heap.size:=by rw [<- a2];rfl
 have hr:=ai h a3;have K0:=Qa (aa hr (j:=0) (u:= .slice A n c) rfl);have K1:=Qa (aa hr (j:=1) (u:= .string s) rfl);have a1:=Qa (ac wr (.cells #[.string s, .iface t x] 109));have a9:=Qa (ap (ap ho a3 (Za _)) a1.out (Za _));have b4:=Qa (av wr [.string s, .iface t x] 109);have b1:=Qa (ai hr a1.out);have b3:=Qa (aR a9.out b1.out (by decide));have b5:=Qa a3;have a5:=Qa b0;have Hb:=Qa hb;clear h ho hr a3 b0 hb;go_enter Tryz.func296,Tryz.ntmps296;go_wp2_with fail;refine cJ (fun w'=>w'.cell? ⟨g,0,none⟩=some (.slice A n c)/\w'.cell? ⟨g,1,none⟩=some (.string s)) 15 ((by rw [a2];exact⟨K0.out,K1.out⟩)) fun a0=> ?_
 rw [a2] at a0 ⊢;clear a2;refine tZ 0 a0 ?_;refine tZ 1 a0 ?_;refine tZ 2 a0 ?_;refine tZ 3 a0 ?_;refine tZ 4 a0 ?_;refine tZ 5 a0 ?_
 try simp only [Act.put,jP,jQ,jR]
 refine tZ 6 a0 ?_;refine tZ 7 a0 ?_;refine tZ 8 a0 ?_;refine tZ 9 a0 ?_;refine tZ 10 a0 ?_
 try simp only [Act.put,jP,jQ,jR]
 refine rZ 11 fun K hK=> ?_
 go_simp;refine hK.out _ _ (fun _=>⟨Zf a1.out a0.1,Zf a1.out a0.2⟩) (fun a0=> ?_);clear hK K;have a0:=a0 (by decide)
 try simp only [Act.put,jP,jQ,jR]
 refine rZ 12 fun K hK=> ?_
 refine cA ya rfl (.tmp 8) (.tmp 15) rfl base (.slice A n c) n wr.heap.size 1 1 xs [.string s, .iface t x] (by simp [Act.eval]) a9.out (by simp [Act.eval]) rfl b4.out (by simp [Value.oneCell']) (by unfold maxLen;omega) (by omega) (by have:=a5.out;have:=a1.out.size;have:=Hb.out;omega) ?_;intro v' w5 p1 p2 p3;obtain⟨A5,q5,rfl, -, -, -⟩:=ag p1;have g5:=aJ b1.out p2 b3.out;have f5:=aj g5 0;have G5:=Qa g5;have HK:=Qa p1;have HG:=Qa p2;have HD:=Qa p3;have k5:=aa g5 (j:=0) (u:= .slice A n c) rfl;have k53:=aa g5 (j:=1) (u:= .string s) rfl;clear p1 p2 p3 g5;refine hK.out _ _ (fun _=>⟨k5,k53⟩) (fun a0=> ?_);clear hK K;have a0:=a0 (by decide)
 try simp only [Act.put,jP,jQ,jR]
 refine rZ 13 fun K hK=> ?_
 go_simp;refine hK.out _ _ (fun _=>a0) (fun a0=> ?_);clear hK K;have a0:=a0 (by decide)
 try simp only [Act.put,jP,jQ,jR]
 refine tZ 14 a0 ?_
 try simp only [Act.put,jP,jQ,jR]
 refine rZ 15 fun K hK=> ?_
 go_simp;refine hK.out _ _ (fun h=>absurd rfl h) (fun _=> ?_);clear hK K
 try simp only [Act.put,jP,jQ,jR]
 refine a8 (by kernel_rfl) (NoPanic.normal ?_) _;clear a0 f5;have g6:=ay G5.out 0 (.slice A5 (n+1) q5);have f6:=aj g6 2;have k6:=aa g6 (j:=2) (u:= .bool b) rfl;have a4:=bl.set (w:=w5) g 0 (.slice A5 (n+1) q5);obtain⟨w6,a6⟩:∃w6,w5.setCell ⟨g,0,none⟩ (.slice A5 (n+1) q5)=w6:=⟨_,rfl⟩;rw [a6] at g6 f6 k6 a4 ⊢;have b2:=Qa a4;have G6:=Qa g6;clear g6 a6 a4;go_wp2_with fail;go_end0;have hne:=aR HK.out G5.out (by decide);have b6:bl (fun k=>k=g\/(Value.slice A n c).ownBlock=some k) w (w6.setCell ⟨g,2,none⟩ (.bool false)):=
  (((bl.of_below (b5.out.trans (a1.out.mono (by have:=a5.out;omega)))).trans (bl.grown HG.out) (fun i h=> .inl (.inr h))).trans b2.out (fun i h=> .inl (.inl h))).trans (bl.set g 2 _) (fun i h=> .inl (.inl h))
 refine⟨rfl,A5,q5,ay G6.out 2 _,bC HK.out fun b hb=> ?_,b6, ?_⟩
 ·have a7:b≠g:=fun e=>hne (by rw [hb,e])
  exact(Below.heap_setCell w6 ⟨g,2,none⟩ _ b a7).trans (b2.out.block b (ae (ak HK.out hb).2.choose_spec) a7)
 ·rcases HD.out with h | h
  ·exact .inl h
  ·exact .inr ⟨_,h,by have:=a1.out.size;have:=a5.out;omega⟩
theorem oS {xs:List Value}{b:Bool}(HI:Calls Tryz.prog 36 #[.pointer (some ⟨g,0,none⟩)] w fun e w'=>e = .returned (.iface 99 (.pointer (some ⟨gt,0,none⟩)))/\∃m,w'=w.drewN m)
  (h:w.heap[gt]?=some (.cells #[.slice A n c, .string s, .bool b] 102 (0,0))) (ho:w.ownsRow base 109 2 (.slice A n c) n xs) (hb:base<=w.heap.size) (hl:n<=1000000000) :
  Calls Tryz.prog 38 #[.pointer (some ⟨g,0,none⟩), .iface t x] w fun e w'=>e = .returned (.tuple #[])/\∃m,sm (w.drewN m) base gt A c n s xs (.iface t x) w':=by
 have HA:=Qa (fun m=>rj (w:=w.drewN m) (t:=t) (x:=x) h ho hb hl);clear h ho hb hl;go_enter Tryz.func38,Tryz.ntmps38;go_wp2_with fail;(with_reducible refine HI.mono ?_);rintro e w1 ⟨rfl,m,rfl⟩;have a0:=Qa (HA.out m);go_wp2_with fail;(with_reducible refine a0.out.mono ?_);rintro e w2 ⟨rfl,hr⟩;go_wp2_with fail;(try simp only [Exit.inBlock,Exit.then]);refine Zg (results_none rfl _ _ _) rfl ?_;exact⟨rfl,m,hr⟩
theorem qC {s:Value}{K:Nat->World->Prop}(h:w.heap[gr]?=some (.cells #[v,s, .bool false] 102 (0,0)))(hv:v.oneCell'=true)
  (H:Calls Tryz.prog 44 #[v] w fun e w'=> ∃gl,e = .returned (.tuple #[.pointer (some ⟨gl,0,none⟩), .nilIface])/\K gl w') :
  Calls Tryz.prog 297 #[.pointer (some ⟨gr,0,none⟩)] w fun e w'=> ∃gl,e = .returned (.tuple #[.iface 119 (.pointer (some ⟨gl,0,none⟩)), .bool true])/\∃w1 m,K gl w1/\w'=w1.drewN m:=by
 have c0:=aa h (j:=0) (u:=v) rfl;have c2:=aa h (j:=2) (u:= .bool false) rfl;have H0:=Qa H;clear h H;go_enter Tryz.func297,Tryz.ntmps297;go_wp2_with fail;(with_reducible refine H0.out.mono ?_);rintro e w1 ⟨gl,rfl,hk⟩;have Hk:=Qa hk;clear hk;go_wp2_with fail;go_quiet (fail);go_wp2_with fail;go_ret2;exact⟨gl,rfl,w1,_,Hk.out,rfl⟩
section
variable {B g c : Nat} {w w' : World} {bs : List Nat} {A : Option Addr} {dv u : Value} {f : Fr} {fs frs : List Fr} {done : Option JV} {m : Nat × Value} {us : List (Value × Nat × Value)}
theorem kl.in_top (h:kl B w g (f::fs) done A c dv ((u,m)::us) bs)(hl:fs.length<1000000000):Calls Tryz.prog 36 #[.pointer (some ⟨g,0,none⟩)] w fun e w'=>e = .returned u/\∃m,w'=w.drewN m:=by
 have a0:us.length=fs.length:=by simpa using h.frames.1
 rcases bR h.own with ⟨_,e,_⟩ | ⟨gr,cap,e,h1,h2,h3⟩
 ·simp at e
 ·obtain⟨rfl, -,rfl⟩:=Value.slice.inj e
  have hr:=h.row;rw [List.length_cons] at hr;refine AV (n:=us.length) hr (by omega) ?_;rw [World.ownsRow.cellAt h.own us.length (by simp)];rw [List.map_cons,List.reverse_cons,List.getElem?_append_right (by simp)];simp
def F3 (frs:List Fr)(done:Option JV):Bool:=match frs with | []=>done.isNone | f::_=> !f.obj||f.name.isSome
theorem nO (h:sS B w g frs done bs)(hl:frs.length<=1000000000):Calls Tryz.prog 35 #[.pointer (some ⟨g,0,none⟩)] w fun e w'=>e = .returned (.bool (F3 frs done))/\Below w.heap.size w w':=by
 obtain⟨A,c,dv,us,h⟩:=h
 cases frs with
 | nil=>
  obtain⟨rfl,rfl⟩:=h.empty;have hr:=h.row
  cases done with
  | none=>rw [show dv = .nilIface from h.done] at hr;exact sN hr
  | some j=>obtain⟨t,x,rfl⟩:=VW.iface h.done;exact uG hr
 | cons f fs=>
  obtain⟨u,m,us,rfl,hw, -⟩:=h.innermost;have hin:=(h.in_top (by simp at hl;omega)).mono (R':=fun e w'=>e = .returned u/\Below w.heap.size w w') (by rintro e w' ⟨rfl,k,rfl⟩;exact⟨rfl,aD (Zd _ _) k⟩)
  cases hw with
  | row g' A' c' us' its h1 h2 h3 h4=>exact xj hin
  | table g' A' c' L ms s nm h1 h2 h3 h4 h5 h6=>exact pT h2 hin
def IE (B g:Nat)(c:de)(w:World)(e:Ending)(w':World):Prop:=e = .returned (.tuple #[])/\Below B w w'/\∃bs',sS B w' g c.frs c.done bs'
def Io (f:Fr):Prop:=f.items.length<=1000000000/\f.mems.length<=1000000000
theorem lH (h:sS B w g frs none bs)(ht:F3 frs none=true)(hv:VW (Pb B bs) w v j)(hB:B<=w.heap.size)(hl:frs.length<=1000000000)(hi:∀f∈frs,Io f) :
  Calls Tryz.prog 38 #[.pointer (some ⟨g,0,none⟩),v] w (IE B g (cC frs j) w):=by
 obtain⟨A,c,dv,us,h⟩:=h
 cases frs with
 | nil=>
  obtain⟨rfl,rfl⟩:=h.empty;obtain⟨ap1,ap2⟩:=h.apart;have hr:=h.row;rw [show dv = .nilIface from h.done] at hr;obtain⟨t,x,rfl⟩:=VW.iface hv;refine(qA hr rfl).mono ?_;rintro e w' ⟨rfl,h1,hc⟩;have hm:Mw [] w w':=Mw.of_chg hc fun k hk _=> .inr (by subst hk;exact⟨_,_,_,h.row,gR⟩)
  refine⟨rfl,hc.below hB (fun i e=>by rw [e];exact h.low), [],A,c, .iface t x, [],h1,h.low,bC h.own fun b hb=> ?_,⟨rfl,fun i a b h=>by simp at h⟩,rfl,List.nodup_nil, ?_⟩
  ·obtain⟨_,cur,h3⟩:=ak h.own hb
   exact hc.block b (ae h3) (ap2 b hb).2
  ·exact VW.move hv hm.mv (by simp) (fun g hg=> .inl hg)
 | cons f fs=>
  obtain⟨u,m,us,rfl,hw, -⟩:=h.innermost;have hin:=h.in_top (by simp at hl;omega);obtain⟨a6,a4⟩:=hi f (by simp);obtain⟨t,x,rfl⟩:=VW.iface hv;have a2:=fun k (hk:k∈dJ m)=>hw.typed hk
  cases hw with
  | row g' A' c' us' its h1 h2 h3 h4=>
   have a5:us'.length=its.length:=h4.1;refine(rJ (t:=t) (x:=x) hin h2 h3 hB (by simp only at a6;omega) (fun b hb e=>aR h3 h2 (by decide) (by rw [hb,e]))).mono ?_;rintro e w' ⟨rfl,k,A5,q5,r1,r2,r3,r4⟩;have hc:bl (fun k=>k=g'\/(Value.slice A' us'.length c').ownBlock=some k) w w':=(bl.of_below (aD (Zd _ _) k)).trans r3 (fun i hi=> .inl hi);have hF:∀k,(k=g'\/(Value.slice A' us'.length c').ownBlock=some k)->k∈dJ (g', .slice A' us'.length c'):=fun k hk=>by simpa [dJ] using hk
   obtain⟨bs',hs⟩:=h.swap (w':=w') (m':=(g', .slice A5 (us'.length+1) q5)) (f':=⟨false,its ++ [j], [],none⟩) hc hF (fun k hk=>by
     simp only [dJ,List.mem_cons,Option.mem_toList] at hk ⊢;rcases hk with hk | hk
     ·exact .inl (.inl hk)
     ·rcases r4 with r4 | ⟨b,r4,r5⟩
      ·exact .inl (.inr (by rw [<- r4];exact hk))
      ·rw [r4] at hk
       exact .inr (by rw [<- Zh hk];exact r5)) (by
     have hne:=aR r2 r1 (by decide);refine List.nodup_cons.2 ⟨fun hk=>hne (by simpa using hk), ?_⟩
     cases (Value.slice A5 (us'.length+1) q5).ownBlock <;> simp) (fun bs2 hm a1 a0=>by
     have:=k7.row (P:=Pb B bs2) (B:=B) (w:=w') g' A5 q5 (us' ++ [.iface t x]) (its ++ [j]) h1 (by rw [List.length_append];exact r1) (by rw [List.length_append];exact r2) ((h4.mono fun _ _ h=>h.move hm.mv a0 a1).snoc (hv.move hm.mv a0 a1));rw [List.length_append] at this;exact this)
   exact⟨rfl,hc.below hB (fun i e=>(a2 i (hF i e)).1),bs',_,_,_,_,hs⟩
  | table g' A' c' L ms s nm h1 h2 h3 h4 h5 h6=>
   obtain⟨sn,rfl⟩:∃sn,nm=some sn:=Option.isSome_iff_exists.1 (by simpa [F3] using ht);obtain rfl:=h6 sn rfl;have a5:L.length=ms.length:=by have:=congrArg List.length h4;simpa using this
   refine(oS (t:=t) (x:=x) hin h2 h3 hB (by simp only at a4;omega)).mono ?_;rintro e w' ⟨rfl,k,A5,q5,r1,r2,r3,r4⟩;have hc:bl (fun k=>k=g'\/(Value.slice A' L.length c').ownBlock=some k) w w':=(bl.of_below (aD (Zd _ _) k)).trans r3 (fun i hi=> .inl hi);have hF:∀k,(k=g'\/(Value.slice A' L.length c').ownBlock=some k)->k∈dJ (g', .slice A' L.length c'):=fun k hk=>by simpa [dJ] using hk
   obtain⟨bs',hs⟩:=h.swap (w':=w') (m':=(g', .slice A5 (L.length+1) q5)) (f':=⟨true, [],ms ++ [(s,j)],none⟩) hc hF (fun k hk=>by
     simp only [dJ,List.mem_cons,Option.mem_toList] at hk ⊢;rcases hk with hk | hk
     ·exact .inl (.inl hk)
     ·rcases r4 with r4 | ⟨b,r4,r5⟩
      ·exact .inl (.inr (by rw [<- r4];exact hk))
      ·rw [r4] at hk
       exact .inr (by rw [<- Zh hk];exact r5)) (by
     have hne:=aR r2 r1 (by decide);refine List.nodup_cons.2 ⟨fun hk=>hne (by simpa using hk), ?_⟩
     cases (Value.slice A5 (L.length+1) q5).ownBlock <;> simp) (fun bs2 hm a1 a0=>by
     have a3:fd (L ++ [(s, .iface t x)])=fd L ++ [.string s, .iface t x]:=by simp [fd]
     have:=k7.table (P:=Pb B bs2) (B:=B) (w:=w') g' A5 q5 (L ++ [(s, .iface t x)]) (ms ++ [(s,j)]) s none h1 (by rw [List.length_append];exact r1) (by unfold xa;rw [List.length_append,a3];exact r2) (by rw [List.map_append,List.map_append,h4];rfl) (by
      rw [List.map_append,List.map_append];exact(h5.mono fun _ _ h=>h.move hm.mv a0 a1).snoc (hv.move hm.mv a0 a1)) (fun t e=>by cases e)
     rw [List.length_append] at this;exact this)
   exact⟨rfl,hc.below hB (fun i e=>(a2 i (hF i e)).1),bs',_,_,_,_,hs⟩
end
section
variable {B g c : Nat} {w : World} {bs : List Nat} {A : Option Addr} {dv u : Value} {f : Fr} {frs : List Fr} {us : List (Value × Nat × Value)}
theorem kl.push (h:kl B w g frs none A c dv us bs){gN q5:Nat}{A5:Option Addr}(hB:B<=w.heap.size)(h2:Below w.heap.size w w2)(hN:w.heap.size<=gN)(a5:gN<w2.heap.size)(hg:w2.grownBy w5 (Value.slice A us.length c).ownBlock)
  (a0:w5.ownsRow B 105 1 (.slice A5 (us.length+1) q5) (us.length+1) ((us.map Prod.fst).reverse ++ [u])) (hf:∀P w',w'.heap[gN]?=w2.heap[gN]?->k7 P B w' u f (gN, .slice none 0 0)) :
  Below B w (w5.setCell ⟨g,0,none⟩ (.slice A5 (us.length+1) q5))/\kl B (w5.setCell ⟨g,0,none⟩ (.slice A5 (us.length+1) q5)) g (f::frs) none A5 q5 dv ((u,gN, .slice none 0 0)::us) (gN::bs):=by
 obtain⟨ap1,ap2⟩:=h.apart;have a4:=ae h.row;have a1:gN≠g:=by omega
 have hob:∀b,(Value.slice A us.length c).ownBlock=some b->b<w.heap.size:=fun b hb=>by obtain⟨_,cur,h3⟩:=ak h.own hb;exact ae h3
 have hc:bl (fun k=>k=g\/(Value.slice A us.length c).ownBlock=some k) w (w5.setCell ⟨g,0,none⟩ (.slice A5 (us.length+1) q5)):=((bl.of_below h2).trans (bl.grown hg) (fun i hi=> .inl (.inr hi))).trans (bl.set g 0 _) (fun i hi=> .inl (.inl hi));have hm:Mw [] w (w5.setCell ⟨g,0,none⟩ (.slice A5 (us.length+1) q5)):=Mw.of_chg hc fun k hk _=> .inr (by
  rcases hk with rfl | hk
  ·exact⟨_,_,_,h.row,gR⟩
  ·obtain⟨_,cur,h3⟩:=ak h.own hk
   exact⟨_,_,_,h3,yb⟩)
 have a3: (w5.setCell ⟨g,0,none⟩ (.slice A5 (us.length+1) q5)).heap[gN]?=w2.heap[gN]?:=(Below.heap_setCell _ ⟨g,0,none⟩ _ gN a1).trans (hg.block gN a5 (fun e=>by have:=hob gN e.symm;omega));have g5:w5.heap[g]?=some (.cells #[.slice A us.length c,dv] 94 (0,0)):=(hg.block g (Nat.lt_of_lt_of_le a4 h2.size) (fun e=>(ap2 g e.symm).2 rfl)).trans (ai h.row h2);have hne:=aR a0 g5 (by decide);have a2:∀k∈gN::bs,k∈bs\/w.heap.size<=k:=fun k hk=>by
  rcases List.mem_cons.1 hk with rfl | hk
  ·exact .inr hN
  ·exact .inl hk
 refine⟨hc.below hB (fun i hi=>by
  rcases hi with rfl | hi
  ·exact h.low
  ·exact(ak h.own hi).1),ay g5 0 _,h.low, ?_,⟨by simpa using h.frames.1,fun i a b h1 h2=> ?_⟩, ?_, ?_,h.done⟩
 ·refine bC ?_ fun b hb=>Below.heap_setCell w5 ⟨g,0,none⟩ _ b (fun e=>hne (by have h9:=hb;rw [show b=g from e] at h9;exact h9))
  rw [List.map_cons,List.reverse_cons];exact a0
 ·cases i with
  | zero=>
   simp only [List.getElem?_cons_zero,Option.some.injEq] at h1 h2;subst h1 h2;exact hf _ _ a3
  | succ i=>exact(h.frames.2 i a b (by simpa using h1) (by simpa using h2)).move hm (by simp) a2 (by simp)
 ·rw [List.flatMap_cons,h.blocks];rfl
 ·refine List.nodup_cons.2 ⟨fun hk=> ?_,h.nodup⟩
  have:=h.lt gN hk;omega
def GS (B g:Nat)(frs:List Fr)(done:Option JV)(w:World)(e:Ending)(w':World):Prop:=e = .returned .nilIface/\Below B w w'/\∃bs',sS B w' g frs done bs'
end
theorem BD (x:Value)(W:World): (Instr.typeAssert (.iface 99 x) 105 99 true).run Tryz.prog W = .ok (.tuple #[x, .bool true]) W:=by kernel_rfl
section
variable {B g : Nat} {w : World} {bs : List Nat} {fs : List Fr} {ms : List (ByteArray × JV)} {s : ByteArray} {a aU aE : Addr}
def F9 (B g:Nat)(fs:List Fr)(ms:List (ByteArray×JV))(s:ByteArray)(er:Value)(w:World)(e:Ending)(w':World):Prop:=(s∈ms.map Prod.fst/\e = .returned er/\Below w.heap.size w w')\/(s∉ms.map Prod.fst/\GS B g (⟨true, [],ms,some s⟩::fs) none w e w')
theorem pp (h:sS B w g (⟨true, [],ms,none⟩::fs) none bs)(hs:dy s)(hG:cG w aU aE)(b2:s.size<=1000000000)(hT:w.cell? ⟨2,0,none⟩=some (bH a))(hB:B<=w.heap.size)(hl:fs.length<1000000000)(b6:ms.length<=1000000000) :
  Calls Tryz.prog 18 #[.pointer (some ⟨g,0,none⟩), .string s] w (F9 B g fs ms s (bH a) w):=by
 obtain⟨A,c,dv,us,hA⟩:=h;obtain⟨u,m,us,rfl,hw, -⟩:=hA.innermost;have hin:=Qa (hA.in_top hl);have HA:=Qa hA;have HB:=Qa hB;have HQ:=Qa (fun w1 (hw:Below w.heap.size w w1)=>o9 hs (hG.below hw) b2);have HT:=Qa hT;clear hs hG b2 hA hT hB
 cases hw with
 | table gt At ct L ms s0 nm h1 h2 h3 h4 h5 h6=>
 have H1:=Qa h1;have H2:=Qa h2;have H3:=Qa h3;have H4:=Qa h4;have H5:=Qa h5;have c8:L.length<=1000000000:=by have:=congrArg List.length h4;simp at this;omega
 have hkt:=BD;clear h1 h2 h3 h4 h5 h6 b6;go_enter Tryz.func18,Tryz.ntmps18;go_wp2_with fail;(with_reducible refine hin.out.mono ?_);rintro e w1 ⟨rfl,k,rfl⟩;obtain⟨wk,a3⟩:∃wk,w.drewN k=wk:=⟨_,rfl⟩;have a6:Below w.heap.size w wk:=by rw [<- a3];exact aD (Zd _ _) k
 have c2:=aa (ai H2.out a6) (j:=2) (u:= .bool false) rfl;have a1:=Qa a6;rw [a3];clear a3 a6;have c4:=Qa (HQ.out wk a1.out);go_wp2_with fail;(with_reducible refine c4.out.mono ?_);rintro e w2 ⟨v,rfl,b1,b0⟩;have a2:=Qa (a1.out.trans (b0.mono a1.out.size));obtain⟨Aq,qq,rfl, -⟩:=ag b1;have c0:=aa (ai H2.out a2.out) (j:=0) (u:= .slice At L.length ct) rfl;clear b1 b0 c2;go_wp2_with fail
 go_loopg [10,39] L.length (fun k _ s39 wr=> ∃i:Nat,k+i=L.length/\s39 = .int .i64 i/\Below w2.heap.size w2 wr/\∀ (j:Nat) (p:ByteArray×Value),j<i->L[j]?=some p->p.1≠s)
 case atStart=>exact⟨0,rfl,rfl,Zd _ _,fun j p h=>by omega⟩
 case round=>
  obtain⟨i,hk,rfl,hb,b3⟩:=hrel;have Hb:=Qa (a2.out.trans (hb.mono a2.out.size));have b8:=Qa hb;have a9:=Qa b3;have Hk:=Qa hk;clear b3 hb hk c0
  by_cases hlt:i<L.length
  ·obtain⟨p,hp⟩:∃p,L[i]?=some p:=⟨_,Zc hlt⟩
   obtain⟨gm,rfl,q0,q1⟩:=(xa.rm H3.out).2.below Hb.out i p hp;obtain⟨tv,xv,hx⟩:∃t x,p.2 = .iface t x:=by
    have c3:=H5.out.1;obtain⟨b,hb⟩:∃b,(ms.map Prod.snd)[i]?=some b:=⟨_,Zc (by rw [<- c3];simpa using hlt)⟩;exact(H5.out.2 i p.2 b (by rw [List.getElem?_map,hp];rfl) hb).iface
   rw [hx] at q1;have a5: (i:Int)<L.length:=by omega
   have Hp:=Qa hp
   by_cases he:p.1=s
   ·have c1: (p.1.toList==s.toList)=true:=by rw [he];simp
    have a7:=ac wr (.cells #[.string p.1, .iface tv xv] 109);have cT:=Zf (Hb.out.trans (a7.mono Hb.out.size)) HT.out;have b5:=Qa (Hb.out.trans (a7.mono Hb.out.size));have He:=Qa he;clear hp hx he a7;go_wp2_with fail;go_ret;exact .inl ⟨by rw [<- H4.out];exact List.mem_map.2 ⟨p,Zk Hp.out,He.out⟩,rfl,b5.out⟩
   ·have c1: (p.1.toList==s.toList)=false:=by rw [jv];simpa using he
    have He:=Qa he;clear hp hx he;go_wp2_with fail;go_roundg (L.length - (i+1))
    case measure=>have:=Hk.out;omega
    case rel=>
     refine⟨i+1,by omega,by go_num,bo b8.out (ac _ _),fun j q hj hq=> ?_⟩
     by_cases e:j=i
     ·subst e
      rw [Hp.out] at hq;rw [<- Zh hq];exact He.out
     ·exact a9.out j q (by omega) hq
  ·obtain rfl:i=L.length:=by have:=Hk.out;omega
   have a5:¬ (L.length:Int)<L.length:=by omega
   have hr:=ai H2.out Hb.out;have k1:=aa hr (j:=1) (u:= .string s0) rfl;have f1:=aj hr 1;have a0:=ay hr 1 (.string s);have k2:=aa a0 (j:=2) (u:= .bool false) rfl;have f2:=aj a0 2;have Hr:=Qa a0;have c7:=Qa hlt;clear hr a0 hlt;go_wp2_with fail;go_ret;have b9:=HA.out.below Hb.out;have hc:bl (fun k=>k=gt) wr ((wr.setCell ⟨gt,1,none⟩ (.string s)).setCell ⟨gt,2,none⟩ (.bool true)):=(bl.set gt 1 _).trans (bl.set gt 2 _) fun i hi=> .inl hi
   have b4:xa wr B (.slice At L.length ct) L:=ap H3.out Hb.out (Za _);have hne:=aR H3.out H2.out (by decide);have b7:s∉ms.map Prod.fst:=fun hm=>by
    rw [<- H4.out] at hm;obtain⟨p,hp,c5⟩:=List.mem_map.1 hm;obtain⟨j,hj,rfl⟩:=List.getElem_of_mem hp;exact a9.out j _ hj (Zc hj) c5
   obtain⟨bs',hs⟩:=b9.swap (m':=(gt, .slice At L.length ct)) (f':=⟨true, [],ms,some s⟩) hc (fun k hk=>by subst hk;simp [dJ]) (fun k hk=> .inl hk) (by
     refine List.nodup_cons.2 ⟨fun hk=>hne (by simpa using hk), ?_⟩
     cases (Value.slice At L.length ct).ownBlock <;> simp) (fun bs2 hm c6 a4=> .table gt At ct L ms s (some s) H1.out (ay Hr.out 2 _) (bC b4 fun b hb=>hc.block b (ae (ak b4 hb).2.choose_spec) fun e=>hne (by rw [hb,e])) H4.out ((H5.out.mono fun _ _ h=>h.later Hb.out).mono fun _ _ h=>h.move hm.mv a4 c6) (fun t e=>Zh e))
   exact .inr ⟨b7,rfl,(Hb.out.mono HB.out).trans (hc.below (Zb HB.out Hb.out.size) fun i e=>by rw [e];exact H1.out),bs',_,_,_,_,hs⟩
end
section
variable {B g : Nat} {w : World} {bs : List Nat} {frs : List Fr} {a aU aE : Addr} {v : Value} {j j0 : JV} {P : Nat -> Prop}
theorem Bo (h:sS B w g frs none bs)(ht:F3 frs none=true)(hv:VW (Pb B bs) w v j)(hP:dt w)(hG:cG w aU aE)(tx:Tx j)(sz:Sz j)(hx: (JV.txt j).length<=140737488355328)(hB:B<=w.heap.size)(hl:frs.length<=1000000000)(hi:∀f∈frs,Io f) :
  Calls Tryz.prog 19 #[.pointer (some ⟨g,0,none⟩),v] w fun e w'=>GS B g (cC frs j).frs (cC frs j).done w e w':=by
 have H1:=Qa (eo hv hP hG tx sz hx);have H2:=Qa (fun w1 (hw:Below w.heap.size w w1)=>nO (h.below hw) hl);have H3:=Qa (fun w1 (hw:Below w.heap.size w w1)=>lH (h.below hw) ht (hv.later hw) (Zb hB hw.size) hl hi);rw [ht] at H2;have HB:=Qa hB;generalize JV.txt j=tl at *;obtain⟨t,x,rfl⟩:=hv.iface;clear h ht hv hP hG tx sz hx hB hl hi;go_enter Tryz.func19,Tryz.ntmps19;go_wp2_with fail;(with_reducible refine H1.out.mono ?_);rintro e w1 ⟨u,rfl,ho,a0⟩;obtain⟨A,q,rfl, -⟩:=ag ho;have a4:=Qa a0;have a7:=Qa (H2.out w1 a0);clear ho a0;go_wp2_with fail;(with_reducible refine a7.out.mono ?_);rintro e w2 ⟨rfl,a2⟩;have a1:=Qa (a4.out.trans (a2.mono a4.out.size));have a6:=Qa (H3.out w2 a1.out);clear a2;go_wp2_with fail;(with_reducible refine a6.out.mono ?_);rintro e w3 ⟨rfl,a3,bs',hs⟩;have a5:=Qa a3;have Hs:=Qa hs;clear a3 hs;go_wp2_with fail;go_ret;exact⟨rfl,(a1.out.mono HB.out).trans a5.out,bs',Hs.out⟩
theorem tW (h:sS B w g [] (some j) bs)(hP:dt w)(hG:cG w aU aE)(tx:Tx j)(sz:Sz j)(hx: (JV.txt j).length<=140737488355328):Calls Tryz.prog 21 #[.pointer (some ⟨g,0,none⟩)] w (Fu (JV.txt j) w):=by
 obtain⟨A,c,dv,us,h⟩:=h;obtain⟨rfl,rfl⟩:=h.empty;have hr:=h.row;have hd:VW (Pb B []) w dv j:=h.done;have H1:=Qa (eo hd hP hG tx sz hx);obtain⟨t,x,rfl⟩:=hd.iface;have c0:=aa hr (j:=0) (u:= .slice A 0 c) rfl;have c1:=aa hr (j:=1) (u:= .iface t x) rfl;generalize JV.txt j=tl at *;clear h hr hd hP hG tx sz hx;go_enter Tryz.func21,Tryz.ntmps21;go_wp2_with fail;(with_reducible refine H1.out.mono ?_);rintro e w1 ⟨u,rfl,ho,a0⟩;obtain⟨A2,q,rfl, -⟩:=ag ho;have a1:=Qa a0;have Ho:=Qa ho;clear ho a0;go_wp2_with fail;go_ret2;exact⟨_,rfl,Ho.out,a1.out⟩
end
