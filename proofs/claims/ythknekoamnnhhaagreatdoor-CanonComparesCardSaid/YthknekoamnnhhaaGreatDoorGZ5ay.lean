import Derived.Test.YthknekoamnnhhaaGreatDoorGZ5ax
import Derived.Lib.SmallJoins
set_option linter.unusedVariables false
set_option linter.unusedSimpArgs false
set_option maxHeartbeats 64000000
set_option maxRecDepth 100000
namespace Go.Proofs.YthknekoamnnhhaaGreatDoor
open Go.RowKit Go.Shelf
variable {d:Dc}{j:JV}{hs hs':List Int}{xs ys:List UInt8}{B base c g gr gt n q5:Nat}{F P:Nat->Prop}{A A5:Option Addr}{e:TypeId}{T:TypeId->Prop}{th v x:Value}{w w' w10 w2 w5 w8:World}
theorem GF:dE 95 107 .nilIface 1 16:=⟨Tryz.underlying95,by kernel_rfl,rfl,by decide⟩
abbrev JI (g:Nat):Value:=.iface 98 (.pointer (some ⟨g,0,none⟩))
abbrev EA (g:Nat):Value:=.iface 101 (.pointer (some ⟨g,0,none⟩))
def dP (m:Nat×Value):List Nat:=m.1::m.2.ownBlock.toList
inductive lA (P:Nat->Prop) (B:Nat) (w:World):Value->Fr->Nat×Value->Prop
 |row (g:Nat) (A:Option Addr) (c:Nat) (us:List Value) (its:List JV):B<=g->w.heap[g]?=some (.cells #[.slice A us.length c] 100 (0,0))->w.ownsRow B 32 1 (.slice A us.length c) us.length us->bB (VW P w) us its->lA P B w (JI g) ⟨false,its, [],none⟩ (g,.slice A us.length c)
 |table (g:Nat) (A:Option Addr) (c:Nat) (L:List (ByteArray×Value)) (ms:List (ByteArray×JV)) (s:ByteArray) (nm:Option ByteArray):B<=g->w.heap[g]?=some (.cells #[.slice A L.length c,.string s,.bool nm.isSome] 104 (0,0))->xW w B (.slice A L.length c) L->L.map Prod.fst=ms.map Prod.fst->bB (VW P w) (L.map Prod.snd) (ms.map Prod.snd)->(∀t,nm=some t->s=t)->lA P B w (EA g) ⟨true, [],ms,nm⟩ (g,.slice A L.length c)
def TX (e:TypeId):Prop:=TV e\/e=100\/e=104
theorem gZ:¬TX 97:=by rintro((h|h|h|h)|h|h) <;> exact absurd h (by decide)
theorem zk:¬TX 107:=by rintro((h|h|h|h)|h|h) <;> exact absurd h (by decide)
def TW (e:TypeId):Prop:=TX e\/e=97\/e=107
structure yn (B:Nat) (w w':World):Prop where
 b:Below B w w'
 keep:aJ TW w w'
theorem yn.trans {a b c:World}(h:yn B a b)(k:yn B b c):yn B a c:=⟨h.b.trans k.b,h.keep.trans k.keep⟩
theorem yn.new (h:Below w.heap.size w w')(hB:B<=w.heap.size):yn B w w':=⟨h.mono hB,aJ.of_below TW h⟩
theorem yn.chg (h:br F w w')(hB:B<=w.heap.size)(hF:∀k,F k->B<=k/\∃cs e z,w.heap[k]?=some (.cells cs e z)/\TW e):yn B w w':=
 ⟨h.below hB fun i hi=>(hF i hi).1,(Kp.of_chg h fun g hg _=>(hF g hg).2).keeps⟩
def Mw (top:List Nat)(w w':World):Prop:=w.heap.size<=w'.heap.size/\∀ (g:Nat) (cs:Array Value) (e:TypeId) (z:Nat×Nat),w.heap[g]?=some (.cells cs e z)->TX e->g∉top->w'.heap[g]?=some (.cells cs e z)
section
variable {B g c:Nat}{w w':World}{bs bs' top:List Nat}{A:Option Addr}{dv u:Value}{f f':Fr}{fs frs:List Fr}{done:Option JV}{m m':Nat×Value}{us:List (Value×Nat×Value)}
theorem Mw.mv (h:Mw top w w'):Mv top w w':=⟨h.1,fun g cs e z hg he ht=>h.2 g cs e z hg (.inl he) ht⟩
theorem Mw.of_below (h:Below w.heap.size w w'):Mw top w w':=⟨h.size,fun g cs e z hg _ _=>(h.block g (ae hg)).trans hg⟩
theorem Mw.of_kp (h:Kp T w w')(hT:∀e,TX e->¬T e):Mw top w w':=⟨h.1,fun g cs e z hg he _=>h.heap hg (hT e he)⟩
theorem Mw.of_chg (h:br F w w')(hF:∀g,F g->g<w.heap.size->g∈top\/∃cs e z,w.heap[g]?=some (.cells cs e z)/\¬TX e):Mw top w w':=by
 refine⟨h.size,fun g cs e z hg he ht=>(h.block g (ae hg) fun hf=>?_).trans hg⟩;rcases hF g hf (ae hg) with h1|⟨cs',e',z',h1,h2⟩
 ·exact ht h1
 ·rw[h1] at hg;injection hg with hg
  injection hg with _ hg _
  subst hg;exact h2 he
theorem lA.typed (h:lA P B w u f m){k:Nat}(hk:k∈dP m):B<=k/\∃cs e z,w.heap[k]?=some (.cells cs e z)/\TX e:=by
 cases h with
 |row g A c us its h1 h2 h3 h4=>
  simp only[dP,List.mem_cons,Option.mem_toList] at hk;rcases hk with rfl|hk
  ·exact⟨h1,_,_,_,h2,.inr (.inl rfl)⟩
  ·obtain⟨q1,cur,q2⟩:=al h3 hk;exact⟨q1,_,_,_,q2,.inl (.inr (.inr (.inl rfl)))⟩
 |table g A c L ms s nm h1 h2 h3 h4 h5 h6=>
  simp only[dP,List.mem_cons,Option.mem_toList] at hk;rcases hk with rfl|hk
  ·exact⟨h1,_,_,_,h2,.inr (.inr rfl)⟩
  ·obtain⟨q1,cur,q2⟩:=al h3 hk;exact⟨q1,_,_,_,q2,.inl (.inr (.inr (.inr rfl)))⟩
theorem lA.move (h:lA (Pb B bs) B w u f m)(hm:Mw top w w')(ht:∀g∈top,g∈bs)(a0:∀g∈bs',g∈bs\/w.heap.size<=g)(hu:∀g∈dP m,g∉top):lA (Pb B bs') B w' u f m:=by
 cases h with
 |row g A c us its h1 h2 h3 h4=>exact .row g A c us its h1 (hm.2 g _ _ _ h2 (.inr (.inl rfl)) (hu g (by simp[dP]))) (k8 h3 hm.mv (.inr (.inr (.inl rfl))) fun b hb=>hu b (by simp[dP,hb])) (h4.mono fun _ _ h=>h.move hm.mv ht a0)
 |table g A c L ms s nm h1 h2 h3 h4 h5 h6=>exact .table g A c L ms s nm h1 (hm.2 g _ _ _ h2 (.inr (.inr rfl)) (hu g (by simp[dP]))) (k8 h3 hm.mv (.inr (.inr (.inr rfl))) fun b hb=>hu b (by simp[dP,hb])) h4 (h5.mono fun _ _ h=>h.move hm.mv ht a0) h6
structure kF (B:Nat) (w:World) (g:Nat) (frs:List Fr) (done:Option JV) (A:Option Addr) (c:Nat) (dv:Value) (us:List (Value×Nat×Value)) (bs:List Nat):Prop where
 row:w.heap[g]?=some (.cells #[.slice A us.length c,dv] 97 (0,0))
 low:B<=g
 own:w.ownsRow B 107 1 (.slice A us.length c) us.length (us.map Prod.fst).reverse
 frames:bB (fun u f=>lA (Pb B bs) B w u.1 f u.2) us frs
 blocks:us.flatMap (fun u=>dP u.2)=bs
 nodup:bs.Nodup
 done:oU (Pb B bs) w dv done
def tN (B:Nat)(w:World)(g:Nat)(frs:List Fr)(done:Option JV)(bs:List Nat):Prop:= ∃A c dv us,kF B w g frs done A c dv us bs
theorem kF.typed (h:kF B w g frs done A c dv us bs){k:Nat}(hk:k∈bs):B<=k/\∃cs e z,w.heap[k]?=some (.cells cs e z)/\TX e:=by
 rw[<-h.blocks] at hk;obtain⟨x,hx,a0⟩:=List.mem_flatMap.1 hk;obtain⟨i,hi,rfl⟩:=List.getElem_of_mem hx;have hl:=h.frames.1;exact(h.frames.2 i us[i] (frs[i]'(by omega)) (Zc hi) (Zc _)).typed a0
theorem kF.lt (h:kF B w g frs done A c dv us bs):∀k∈bs,k<w.heap.size:=fun k hk=>by obtain⟨_,cs,e,z,h1,_⟩:=h.typed hk;exact ae h1
theorem tN.lt (h:tN B w g frs done bs):∀k∈bs,k<w.heap.size:=by obtain⟨_,_,_,_,h⟩:=h;exact h.lt
theorem kF.apart (h:kF B w g frs done A c dv us bs):g∉bs/\∀b,(Value.slice A us.length c).ownBlock=some b->b∉bs/\b≠g:=by
 refine⟨fun hk=>?_,fun b hb=>⟨fun hk=>?_,fun e=>?_⟩⟩
 ·obtain⟨_,cs,e,z,h1,h2⟩:=h.typed hk;rw[h.row] at h1;injection h1 with h1
  injection h1 with _ h1 _
  exact gZ (h1▸h2)
 ·obtain⟨_,cs,e,z,h1,h2⟩:=h.typed hk;obtain⟨_,cur,h3⟩:=al h.own hb;rw[h3] at h1;injection h1 with h1
  injection h1 with _ h1 _
  exact zk (h1▸h2)
 ·obtain⟨_,cur,h3⟩:=al h.own hb;rw[e,h.row] at h3;injection h3 with h3
  injection h3 with _ h3 _
  exact absurd h3 (by decide)
theorem kF.move (h:kF B w g frs done A c dv us bs)(hm:Mw [] w w')(hg:w'.heap[g]?=w.heap[g]?)(ho:∀b,(Value.slice A us.length c).ownBlock=some b->w'.heap[b]?=w.heap[b]?):kF B w' g frs done A c dv us bs:=
 have a0:∀k∈bs,k∈bs\/w.heap.size<=k:=fun k hk=>.inl hk
 ⟨hg.trans h.row,h.low,bH h.own ho,h.frames.mono fun _ _ h=>h.move hm (by simp) a0 (by simp),h.blocks,h.nodup,h.done.move hm.mv (by simp) a0⟩
theorem kF.below (h:kF B w g frs done A c dv us bs)(hb:Below w.heap.size w w'):kF B w' g frs done A c dv us bs:=
 h.move (Mw.of_below hb) (hb.block g (ae h.row)) fun b a0=>by obtain⟨_,cur,h3⟩:=al h.own a0;exact hb.block b (ae h3)
theorem tN.below (h:tN B w g frs done bs)(hb:Below w.heap.size w w'):tN B w' g frs done bs:=by obtain⟨A,c,dv,us,h⟩:=h;exact⟨A,c,dv,us,h.below hb⟩
theorem kF.empty (h:kF B w g [] done A c dv us bs):us = []/\bs = []:=by
 have:=h.frames.1;obtain rfl:=List.eq_nil_of_length_eq_zero (show us.length=0 by simpa using this);exact⟨rfl,h.blocks.symm⟩
theorem kF.innermost (h:kF B w g (f::fs) done A c dv us bs):∃u m us',us= (u,m)::us'/\lA (Pb B bs) B w u f m/\us'.length=fs.length:=by
 cases us with
 |nil=>have:=h.frames.1;simp at this
 |cons x us=>exact⟨x.1,x.2,us,rfl,h.frames.2 0 _ _ rfl rfl,by have:=h.frames.1;simpa using this⟩
theorem kF.swap (h:kF B w g (f::fs) done A c dv ((u,m)::us) bs)(hc:br F w w')(hF:∀k,F k->k∈dP m)
  (hn:∀k∈dP m',k∈dP m\/w.heap.size<=k) (a4:(dP m').Nodup)
  (hw:∀bs',Mw (dP m) w w'->(∀k∈bs',k∈bs\/w.heap.size<=k)->(∀k∈dP m,k∈bs)->lA (Pb B bs') B w' u f' m') :
  ∃bs',kF B w' g (f'::fs) done A c dv ((u,m')::us) bs':=by
 obtain⟨ap1,ap2⟩:=h.apart;have a0:∀k∈dP m,k∈bs:=fun k hk=>by rw[<-h.blocks];exact List.mem_append_left _ hk
 have hm:Mw (dP m) w w':=Mw.of_chg hc fun k hk _=>.inl (hF k hk)
 have a2:∀k∈dP m'++us.flatMap (fun u=>dP u.2),k∈bs\/w.heap.size<=k:=fun k hk=>by
  rcases List.mem_append.1 hk with hk|hk
  ·exact(hn k hk).imp (a0 k) id
  ·exact .inl (by rw[<-h.blocks];exact List.mem_append_right _ hk)
 have a1:=h.nodup;rw[<-h.blocks,List.flatMap_cons,List.nodup_append] at a1;obtain⟨n1,n2,n3⟩:=a1;refine⟨dP m'++us.flatMap (fun u=>dP u.2),(hc.block g (ae h.row) fun hf=>ap1 (a0 g (hF g hf))).trans h.row,h.low,bH h.own fun b hb=>?_,⟨by simpa using h.frames.1,fun i a b h1 h2=>?_⟩,rfl,?_,h.done.move hm.mv a0 a2⟩
 ·obtain⟨_,cur,h3⟩:=al h.own hb;exact hc.block b (ae h3) fun hf=>(ap2 b hb).1 (a0 b (hF b hf))
 ·cases i with
  |zero=>
   simp only[List.getElem?_cons_zero,Option.some.injEq] at h1 h2;subst h1 h2;exact hw _ hm a2 a0
  |succ i=>
   have a3:us[i]?=some a:=by simpa using h1
   have:=h.frames.2 (i+1) a b (by simpa using h1) (by simpa using h2);exact this.move hm a0 a2 fun k hk a5=>n3 k a5 k (List.mem_flatMap.2 ⟨a,Zk a3,hk⟩) rfl
 ·rw[List.nodup_append];refine⟨a4,n2,fun a ha b hb e=>?_⟩;subst e;rcases hn a ha with h1|h1
  ·exact n3 a h1 a hb rfl
  ·have:=h.lt a (by rw[<-h.blocks];exact List.mem_append_right _ hb);omega
theorem kF.pop (h:kF B w g (f::fs) done A c dv ((u,m)::us) bs):kF B (w.setCell ⟨g,0,none⟩ (.slice A us.length c)) g fs done A c dv us (us.flatMap fun u=>dP u.2):=by
 obtain⟨ap1,ap2⟩:=h.apart;have hc:=br.set (w:=w) g 0 (.slice A us.length c);have hm:Mw [] w (w.setCell ⟨g,0,none⟩ (.slice A us.length c)):=Mw.of_chg hc fun k hk _=>.inr (by subst hk;exact⟨_,_,_,h.row,gZ⟩)
 have a1:∀k∈us.flatMap (fun u=>dP u.2),k∈bs\/w.heap.size<=k:=fun k hk=>.inl (by rw[<-h.blocks];exact List.mem_append_right _ hk)
 have a0:=h.nodup;rw[<-h.blocks,List.flatMap_cons,List.nodup_append] at a0;have ho:=h.own;rw[List.map_cons,List.reverse_cons,List.length_cons] at ho;refine⟨aw h.row 0 _,h.low,bH (ko ho (by simp)) fun b hb=>?_,⟨by simpa using h.frames.1,fun i a b h1 h2=>?_⟩,rfl,a0.2.1,h.done.move hm.mv (by simp) a1⟩
 ·have a2:(Value.slice A (us.length+1) c).ownBlock=some b:=by
   cases A with
   |none=>simp[Value.ownBlock] at hb
   |some a=>simpa [Value.ownBlock] using hb
  obtain⟨_,cur,h3⟩:=al ho a2;exact hc.block b (ae h3) (ap2 b a2).2
 ·exact(h.frames.2 (i+1) a b (by simpa using h1) (by simpa using h2)).move hm (by simp) a1 (by simp)
end
def wH (w:World)(base g:Nat)(A:Option Addr)(c n:Nat)(s:ByteArray)(xs:List Value)(v:Value)(w':World):Prop:= ∃A' q,w'.heap[g]?=some (.cells #[.slice A' (n+1) q,.string s,.bool false] 104 (0,0))/\w'.ownsRow base 111 2 (.slice A' (n+1) q) (n+1) (xs ++ [.string s,v])/\br (fun k=>k=g\/(Value.slice A n c).ownBlock=some k) w w'/\((Value.slice A' (n+1) q).ownBlock= (Value.slice A n c).ownBlock\/∃b,(Value.slice A' (n+1) q).ownBlock=some b/\w.heap.size<=b)
theorem qQ {xs:List Value}{s:ByteArray}{b:Bool}{t:TypeId}(h:w.heap[g]?=some (.cells #[.slice A n c,.string s,.bool b] 104 (0,0)))(ho:w.ownsRow base 111 2 (.slice A n c) n xs)(hb:base<=w.heap.size)(hl:n<=1000000000) :
  Calls Tryz.prog 320 #[.pointer (some ⟨g,0,none⟩),.iface t x] w fun e w'=>e =.returned (.tuple #[])/\wH w base g A c n s xs (.iface t x) w':=by
 obtain⟨wr,a2⟩:∃wr,w.drew=wr:=⟨_,rfl⟩;have a3:Below w.heap.size w wr:=by rw[<-a2];exact(Zd _ _).drew
 have a7:wr.heap.size=w.heap.size:=by rw[<-a2];rfl
 have hr:=aj h a3;have K0:=Qa (aa hr (j:=0) (u:=.slice A n c) rfl);have K1:=Qa (aa hr (j:=1) (u:=.string s) rfl);have a1:=Qa (ac wr (.cells #[.string s,.iface t x] 111));have b2:=Qa (aq (aq ho a3 (Za _)) a1.out (Za _));have b5:=Qa (ar wr [.string s,.iface t x] 111);have a6:=Qa (aj hr a1.out);have b3:=Qa (aO b2.out a6.out (by decide));have b6:=Qa a3;have a4:=Qa a7;have Hb:=Qa hb;clear h ho hr a3 a7 hb;go_enter Tryz.func320,Tryz.ntmps320;go_wp2_with fail;refine dj (fun w'=>w'.cell? ⟨g,0,none⟩=some (.slice A n c)/\w'.cell? ⟨g,1,none⟩=some (.string s)) 15 ((by rw[a2];exact⟨K0.out,K1.out⟩)) fun a0=>?_
 rw[a2] at a0 ⊢;clear a2;refine tZ 0 a0 ?_;refine tZ 1 a0 ?_;refine tZ 2 a0 ?_;refine tZ 3 a0 ?_;refine tZ 4 a0 ?_;refine tZ 5 a0 ?_
 try simp only[Act.put,jP,jQ,jR]
 refine tZ 6 a0 ?_;refine tZ 7 a0 ?_;refine tZ 8 a0 ?_;refine tZ 9 a0 ?_;refine tZ 10 a0 ?_
 try simp only[Act.put,jP,jQ,jR]
 refine rZ 11 fun K hK=>?_
 go_simp;refine hK.out _ _ (fun _=>⟨Zf a1.out a0.1,Zf a1.out a0.2⟩) (fun a0=>?_);clear hK K;have a0:=a0 (by decide)
 try simp only[Act.put,jP,jQ,jR]
 refine rZ 12 fun K hK=>?_
 refine xh zx b2.out b5.out (by have:=a4.out;have:=a1.out.size;have:=Hb.out;omega) ?_;intro v' w5 p1 p2 p3;obtain⟨A5,q5,rfl,-,-,-⟩:=ah p1;have g5:=aF a6.out p2 b3.out;have f5:=am g5 0;have G5:=Qa g5;have HK:=Qa p1;have HG:=Qa p2;have HD:=Qa p3;have k5:=aa g5 (j:=0) (u:=.slice A n c) rfl;have k53:=aa g5 (j:=1) (u:=.string s) rfl;clear p1 p2 p3 g5;refine hK.out _ _ (fun _=>⟨k5,k53⟩) (fun a0=>?_);clear hK K;have a0:=a0 (by decide)
 try simp only[Act.put,jP,jQ,jR]
 refine rZ 13 fun K hK=>?_
 go_simp;refine hK.out _ _ (fun _=>a0) (fun a0=>?_);clear hK K;have a0:=a0 (by decide)
 try simp only[Act.put,jP,jQ,jR]
 refine tZ 14 a0 ?_
 try simp only[Act.put,jP,jQ,jR]
 refine rZ 15 fun K hK=>?_
 go_simp;refine hK.out _ _ (fun h=>absurd rfl h) (fun _=>?_);clear hK K
 try simp only[Act.put,jP,jQ,jR]
 refine bi (by kernel_rfl) (NoPanic.normal ?_) _;clear a0 f5;have g6:=aw G5.out 0 (.slice A5 (n+1) q5);have f6:=am g6 2;have k6:=aa g6 (j:=2) (u:=.bool b) rfl;have a5:=br.set (w:=w5) g 0 (.slice A5 (n+1) q5);obtain⟨w6,a9⟩:∃w6,w5.setCell ⟨g,0,none⟩ (.slice A5 (n+1) q5)=w6:=⟨_,rfl⟩;rw[a9] at g6 f6 k6 a5 ⊢;have b0:=Qa a5;have G6:=Qa g6;clear g6 a9 a5;go_wp2_with fail;go_end0;have hne:=aO HK.out G5.out (by decide);have b4:br (fun k=>k=g\/(Value.slice A n c).ownBlock=some k) w (w6.setCell ⟨g,2,none⟩ (.bool false)):=
  (((br.of_below (b6.out.trans (a1.out.mono (by have:=a4.out;omega)))).trans (br.grown HG.out) (fun i h=>.inl (.inr h))).trans b0.out (fun i h=>.inl (.inl h))).trans (br.set g 2 _) (fun i h=>.inl (.inl h))
 refine⟨rfl,A5,q5,aw G6.out 2 _,bH HK.out fun b hb=>?_,b4,?_⟩
 ·have b1:b≠g:=fun e=>hne (by rw[hb,e])
  exact(Below.heap_setCell w6 ⟨g,2,none⟩ _ b b1).trans (b0.out.block b (ae (al HK.out hb).2.choose_spec) b1)
 ·rcases HD.out with h|h
  ·exact .inl h
  ·exact .inr ⟨_,h,by have:=a1.out.size;have:=a4.out;omega⟩
theorem o7 {xs:List Value}{s:ByteArray}{b:Bool}{t:TypeId}(HI:Calls Tryz.prog 46 #[.pointer (some ⟨g,0,none⟩)] w fun e w'=>e =.returned (.iface 101 (.pointer (some ⟨gt,0,none⟩)))/\∃m,w'=w.drewN m)
  (h:w.heap[gt]?=some (.cells #[.slice A n c,.string s,.bool b] 104 (0,0))) (ho:w.ownsRow base 111 2 (.slice A n c) n xs) (hb:base<=w.heap.size) (hl:n<=1000000000) :
  Calls Tryz.prog 48 #[.pointer (some ⟨g,0,none⟩),.iface t x] w fun e w'=>e =.returned (.tuple #[])/\∃m,wH (w.drewN m) base gt A c n s xs (.iface t x) w':=by
 have HA:=Qa (fun m=>qQ (w:=w.drewN m) (t:=t) (x:=x) h ho hb hl);clear h ho hb hl;go_enter Tryz.func48,Tryz.ntmps48;go_wp2_with fail;(with_reducible refine HI.mono ?_);rintro e w1 ⟨rfl,m,rfl⟩;have a0:=Qa (HA.out m);go_wp2_with fail;(with_reducible refine a0.out.mono ?_);rintro e w2 ⟨rfl,hr⟩;go_wp2_with fail;(try simp only[Exit.inBlock,Exit.then]);refine Zg (results_none rfl ..) rfl ?_;exact⟨rfl,m,hr⟩
theorem sK {s:Value}{K:Nat->World->Prop}(h:w.heap[gr]?=some (.cells #[v,s,.bool false] 104 (0,0)))(hv:v.oneCell'=true)
  (H:Calls Tryz.prog 55 #[v] w fun e w'=> ∃gl,e =.returned (.tuple #[.pointer (some ⟨gl,0,none⟩),.nilIface])/\K gl w') :
  Calls Tryz.prog 321 #[.pointer (some ⟨gr,0,none⟩)] w fun e w'=> ∃gl,e =.returned (.tuple #[.iface 130 (.pointer (some ⟨gl,0,none⟩)),.bool true])/\∃w1 m,K gl w1/\w'=w1.drewN m:=by
 have c0:=aa h (j:=0) (u:=v) rfl;have c2:=aa h (j:=2) (u:=.bool false) rfl;have H0:=Qa H;clear h H;go_enter Tryz.func321,Tryz.ntmps321;go_wp2_with fail;(with_reducible refine H0.out.mono ?_);rintro e w1 ⟨gl,rfl,hk⟩;have Hk:=Qa hk;clear hk;go_wp2_with fail;go_quiet (fail);go_wp2_with fail;go_ret2;exact⟨gl,rfl,w1,_,Hk.out,rfl⟩
section
variable {B g c:Nat}{w w':World}{bs:List Nat}{A:Option Addr}{dv u:Value}{f:Fr}{fs frs:List Fr}{done:Option JV}{m:Nat×Value}{us:List (Value×Nat×Value)}
theorem kF.in_top (h:kF B w g (f::fs) done A c dv ((u,m)::us) bs)(hl:fs.length<1000000000):Calls Tryz.prog 46 #[.pointer (some ⟨g,0,none⟩)] w fun e w'=>e =.returned u/\∃m,w'=w.drewN m:=by
 have a0:us.length=fs.length:=by simpa using h.frames.1
 rcases bU h.own with ⟨_,e,_⟩|⟨gr,cap,e,h1,h2,h3⟩
 ·simp at e
 ·obtain⟨rfl,-,rfl⟩:=Value.slice.inj e;have hr:=h.row;rw[List.length_cons] at hr;refine DQ (n:=us.length) hr (by omega) ?_;rw[World.ownsRow.cellAt h.own us.length (by simp)];rw[List.map_cons,List.reverse_cons,List.getElem?_append_right (by simp)];simp
def Ij (frs:List Fr)(done:Option JV):Bool:=match frs with | []=>done.isNone|f::_=> !f.obj||f.name.isSome
theorem ot (h:tN B w g frs done bs)(hl:frs.length<=1000000000):Calls Tryz.prog 45 #[.pointer (some ⟨g,0,none⟩)] w fun e w'=>e =.returned (.bool (Ij frs done))/\Below w.heap.size w w':=by
 obtain⟨A,c,dv,us,h⟩:=h
 cases frs with
 |nil=>
  obtain⟨rfl,rfl⟩:=h.empty;have hr:=h.row
  cases done with
  |none=>rw[show dv =.nilIface from h.done] at hr;exact uT hr
  |some j=>obtain⟨t,x,rfl⟩:=VW.iface h.done;exact ux hr
 |cons f fs=>
  obtain⟨u,m,us,rfl,hw,-⟩:=h.innermost;have hin:=(h.in_top (by simp at hl;omega)).mono (R':=fun e w'=>e =.returned u/\Below w.heap.size w w') (by rintro e w' ⟨rfl,k,rfl⟩;exact⟨rfl,az (Zd _ _) k⟩)
  cases hw with
  |row g' A' c' us' its h1 h2 h3 h4=>exact yr hin
  |table g' A' c' L ms s nm h1 h2 h3 h4 h5 h6=>exact rh h2 hin
def Kb (B g:Nat)(c:dH)(w:World)(e:Ending)(w':World):Prop:=e =.returned (.tuple #[])/\yn B w w'/\∃bs',tN B w' g c.frs c.done bs'
def Jn (f:Fr):Prop:=f.items.length<=1000000000/\f.mems.length<=1000000000
theorem mr (h:tN B w g frs none bs)(ht:Ij frs none=true)(hv:VW (Pb B bs) w v j)(hB:B<=w.heap.size)(hl:frs.length<=1000000000)(hi:∀f∈frs,Jn f) :
  Calls Tryz.prog 48 #[.pointer (some ⟨g,0,none⟩),v] w (Kb B g (cW frs j) w):=by
 obtain⟨A,c,dv,us,h⟩:=h
 cases frs with
 |nil=>
  obtain⟨rfl,rfl⟩:=h.empty;obtain⟨ap1,ap2⟩:=h.apart;have hr:=h.row;rw[show dv =.nilIface from h.done] at hr;obtain⟨t,x,rfl⟩:=VW.iface hv;refine(qI hr rfl).mono ?_;rintro e w' ⟨rfl,h1,hc⟩;have hm:Mw [] w w':=Mw.of_chg hc fun k hk _=>.inr (by subst hk;exact⟨_,_,_,h.row,gZ⟩)
  refine⟨rfl,.chg hc hB (fun i e=>by subst e;exact⟨h.low,_,_,_,h.row,.inr (.inl rfl)⟩), [],A,c,.iface t x, [],h1,h.low,bH h.own fun b hb=>?_,⟨rfl,fun i a b h=>by simp at h⟩,rfl,List.nodup_nil,?_⟩
  ·obtain⟨_,cur,h3⟩:=al h.own hb;exact hc.block b (ae h3) (ap2 b hb).2
  ·exact VW.move hv hm.mv (by simp) (fun g hg=>.inl hg)
 |cons f fs=>
  obtain⟨u,m,us,rfl,hw,-⟩:=h.innermost;have hin:=h.in_top (by simp at hl;omega);obtain⟨a4,a3⟩:=hi f (by simp);obtain⟨t,x,rfl⟩:=VW.iface hv;have a2:=fun k (hk:k∈dP m)=>hw.typed hk
  cases hw with
  |row g' A' c' us' its h1 h2 h3 h4=>
   have a5:us'.length=its.length:=h4.1;refine(uA (t:=t) (x:=x) hin h2 h3 hB (by simp only at a4;omega) (fun b hb e=>aO h3 h2 (by decide) (by rw[hb,e]))).mono ?_;rintro e w' ⟨rfl,k,A5,q5,r1,r2,r3,r4⟩;have hc:br (fun k=>k=g'\/(Value.slice A' us'.length c').ownBlock=some k) w w':=(br.of_below (az (Zd _ _) k)).trans r3 (fun i hi=>.inl hi);have hF:∀k,(k=g'\/(Value.slice A' us'.length c').ownBlock=some k)->k∈dP (g',.slice A' us'.length c'):=fun k hk=>by simpa [dP] using hk
   obtain⟨bs',hs⟩:=h.swap (w':=w') (m':=(g',.slice A5 (us'.length+1) q5)) (f':=⟨false,its ++ [j], [],none⟩) hc hF (fun k hk=>by
     simp only[dP,List.mem_cons,Option.mem_toList] at hk ⊢;rcases hk with hk|hk
     ·exact .inl (.inl hk)
     ·rcases r4 with r4|⟨b,r4,r5⟩
      ·exact .inl (.inr (by rw[<-r4];exact hk))
      ·rw[r4] at hk;exact .inr (by rw[<-Zh hk];exact r5)) (by
     have hne:=aO r2 r1 (by decide);refine List.nodup_cons.2 ⟨fun hk=>hne (by simpa using hk),?_⟩
     cases (Value.slice A5 (us'.length+1) q5).ownBlock <;> simp) (fun bs2 hm a1 a0=>by
     have:=lA.row (P:=Pb B bs2) (B:=B) (w:=w') g' A5 q5 (us' ++ [.iface t x]) (its ++ [j]) h1 (by rw[List.length_append];exact r1) (by rw[List.length_append];exact r2) ((h4.mono fun _ _ h=>h.move hm.mv a0 a1).snoc (hv.move hm.mv a0 a1));rw[List.length_append] at this;exact this)
   exact⟨rfl,.chg hc hB (fun i e=>by obtain⟨q1,cs,t,z,q2,q3⟩:=a2 i (hF i e);exact⟨q1,cs,t,z,q2,.inl q3⟩),bs',_,_,_,_,hs⟩
  |table g' A' c' L ms s nm h1 h2 h3 h4 h5 h6=>
   obtain⟨sn,rfl⟩:∃sn,nm=some sn:=Option.isSome_iff_exists.1 (by simpa [Ij] using ht);obtain rfl:=h6 sn rfl;have a5:L.length=ms.length:=by have:=congrArg List.length h4;simpa using this
   refine(o7 (t:=t) (x:=x) hin h2 h3 hB (by simp only at a3;omega)).mono ?_;rintro e w' ⟨rfl,k,A5,q5,r1,r2,r3,r4⟩;have hc:br (fun k=>k=g'\/(Value.slice A' L.length c').ownBlock=some k) w w':=(br.of_below (az (Zd _ _) k)).trans r3 (fun i hi=>.inl hi);have hF:∀k,(k=g'\/(Value.slice A' L.length c').ownBlock=some k)->k∈dP (g',.slice A' L.length c'):=fun k hk=>by simpa [dP] using hk
   obtain⟨bs',hs⟩:=h.swap (w':=w') (m':=(g',.slice A5 (L.length+1) q5)) (f':=⟨true, [],ms ++ [(s,j)],none⟩) hc hF (fun k hk=>by
     simp only[dP,List.mem_cons,Option.mem_toList] at hk ⊢;rcases hk with hk|hk
     ·exact .inl (.inl hk)
     ·rcases r4 with r4|⟨b,r4,r5⟩
      ·exact .inl (.inr (by rw[<-r4];exact hk))
      ·rw[r4] at hk;exact .inr (by rw[<-Zh hk];exact r5)) (by
     have hne:=aO r2 r1 (by decide);refine List.nodup_cons.2 ⟨fun hk=>hne (by simpa using hk),?_⟩
     cases (Value.slice A5 (L.length+1) q5).ownBlock <;> simp) (fun bs2 hm a1 a0=>by
     have a6:ga (L ++ [(s,.iface t x)])=ga L ++ [.string s,.iface t x]:=by simp[ga]
     have:=lA.table (P:=Pb B bs2) (B:=B) (w:=w') g' A5 q5 (L ++ [(s,.iface t x)]) (ms ++ [(s,j)]) s none h1 (by rw[List.length_append];exact r1) (by unfold xW;rw[List.length_append,a6];exact r2) (by rw[List.map_append,List.map_append,h4];rfl) (by
      rw[List.map_append,List.map_append];exact(h5.mono fun _ _ h=>h.move hm.mv a0 a1).snoc (hv.move hm.mv a0 a1)) (fun t e=>by cases e)
     rw[List.length_append] at this;exact this)
   exact⟨rfl,.chg hc hB (fun i e=>by obtain⟨q1,cs,t,z,q2,q3⟩:=a2 i (hF i e);exact⟨q1,cs,t,z,q2,.inl q3⟩),bs',_,_,_,_,hs⟩
end
section
variable {B g c:Nat}{w:World}{bs:List Nat}{A:Option Addr}{dv u:Value}{f:Fr}{frs:List Fr}{us:List (Value×Nat×Value)}
theorem kF.push (h:kF B w g frs none A c dv us bs){gN:Nat}(hB:B<=w.heap.size)(h2:Below w.heap.size w w2)(hN:w.heap.size<=gN)(a4:gN<w2.heap.size)(hg:w2.grownBy w5 (Value.slice A us.length c).ownBlock)
  (a0:w5.ownsRow B 107 1 (.slice A5 (us.length+1) q5) (us.length+1) ((us.map Prod.fst).reverse ++ [u])) (hf:∀P w',w'.heap[gN]?=w2.heap[gN]?->lA P B w' u f (gN,.slice none 0 0)) :
  yn B w (w5.setCell ⟨g,0,none⟩ (.slice A5 (us.length+1) q5))/\kF B (w5.setCell ⟨g,0,none⟩ (.slice A5 (us.length+1) q5)) g (f::frs) none A5 q5 dv ((u,gN,.slice none 0 0)::us) (gN::bs):=by
 obtain⟨ap1,ap2⟩:=h.apart;have a2:=ae h.row;have a5:gN≠g:=by omega
 have hob:∀b,(Value.slice A us.length c).ownBlock=some b->b<w.heap.size:=fun b hb=>by obtain⟨_,cur,h3⟩:=al h.own hb;exact ae h3
 have hc:br (fun k=>k=g\/(Value.slice A us.length c).ownBlock=some k) w (w5.setCell ⟨g,0,none⟩ (.slice A5 (us.length+1) q5)):=((br.of_below h2).trans (br.grown hg) (fun i hi=>.inl (.inr hi))).trans (br.set g 0 _) (fun i hi=>.inl (.inl hi));have hm:Mw [] w (w5.setCell ⟨g,0,none⟩ (.slice A5 (us.length+1) q5)):=Mw.of_chg hc fun k hk _=>.inr (by
  rcases hk with rfl|hk
  ·exact⟨_,_,_,h.row,gZ⟩
  ·obtain⟨_,cur,h3⟩:=al h.own hk;exact⟨_,_,_,h3,zk⟩)
 have a3:(w5.setCell ⟨g,0,none⟩ (.slice A5 (us.length+1) q5)).heap[gN]?=w2.heap[gN]?:=(Below.heap_setCell _ ⟨g,0,none⟩ _ gN a5).trans (hg.block gN a4 (fun e=>by have:=hob gN e.symm;omega));have g5:w5.heap[g]?=some (.cells #[.slice A us.length c,dv] 97 (0,0)):=(hg.block g (Nat.lt_of_lt_of_le a2 h2.size) (fun e=>(ap2 g e.symm).2 rfl)).trans (aj h.row h2);have hne:=aO a0 g5 (by decide);have a1:∀k∈gN::bs,k∈bs\/w.heap.size<=k:=fun k hk=>by
  rcases List.mem_cons.1 hk with rfl|hk
  ·exact .inr hN
  ·exact .inl hk
 refine⟨.chg hc hB (fun i hi=>by
  rcases hi with rfl|hi
  ·exact⟨h.low,_,_,_,h.row,.inr (.inl rfl)⟩
  ·obtain⟨q1,cur,q2⟩:=al h.own hi;exact⟨q1,_,_,_,q2,.inr (.inr rfl)⟩),aw g5 0 _,h.low,?_,⟨by simpa using h.frames.1,fun i a b h1 h2=>?_⟩,?_,?_,h.done⟩
 ·refine bH ?_ fun b hb=>Below.heap_setCell w5 ⟨g,0,none⟩ _ b (fun e=>hne (by have h9:=hb;rw[show b=g from e] at h9;exact h9))
  rw[List.map_cons,List.reverse_cons];exact a0
 ·cases i with
  |zero=>
   simp only[List.getElem?_cons_zero,Option.some.injEq] at h1 h2;subst h1 h2;exact hf _ _ a3
  |succ i=>exact(h.frames.2 i a b (by simpa using h1) (by simpa using h2)).move hm (by simp) a1 (by simp)
 ·rw[List.flatMap_cons,h.blocks];rfl
 ·refine List.nodup_cons.2 ⟨fun hk=>?_,h.nodup⟩;have:=h.lt gN hk;omega
def Jf (B g:Nat)(frs:List Fr)(done:Option JV)(w:World)(e:Ending)(w':World):Prop:=e =.returned .nilIface/\yn B w w'/\∃bs',tN B w' g frs done bs'
end
theorem CJ (x:Value)(W:World):(Instr.typeAssert (.iface 101 x) 107 101 true).run Tryz.prog W =.ok (.tuple #[x,.bool true]) W:=by kernel_rfl
section
variable {B g:Nat}{w:World}{bs:List Nat}{fs:List Fr}{ms:List (ByteArray×JV)}{s:ByteArray}{a aU aE:Addr}
def IS (B g:Nat)(fs:List Fr)(ms:List (ByteArray×JV))(s:ByteArray)(er:Value)(w:World)(e:Ending)(w':World):Prop:=(s∈ms.map Prod.fst/\e =.returned er/\Below w.heap.size w w')\/(s∉ms.map Prod.fst/\Jf B g (⟨true, [],ms,some s⟩::fs) none w e w')
theorem qu (h:tN B w g (⟨true, [],ms,none⟩::fs) none bs)(hs:dB s)(hG:cR w aU aE)(hsz:s.size<=1000000000)(hT:w.cell? ⟨2,0,none⟩=some (bL a))(hB:B<=w.heap.size)(hl:fs.length<1000000000)(b9:ms.length<=1000000000) :
  Calls Tryz.prog 21 #[.pointer (some ⟨g,0,none⟩),.string s] w (IS B g fs ms s (bL a) w):=by
 obtain⟨A,c,dv,us,hA⟩:=h;obtain⟨u,m,us,rfl,hw,-⟩:=hA.innermost;have hin:=Qa (hA.in_top hl);have HA:=Qa hA;have HB:=Qa hB;have HQ:=Qa (fun w1 (hw:Below w.heap.size w w1)=>ql hs (hG.below hw) hsz);have HT:=Qa hT;clear hs hG hsz hA hT hB
 cases hw with
 |table gt At ct L ms s0 nm h1 h2 h3 h4 h5 h6=>
 have H1:=Qa h1;have H2:=Qa h2;have H3:=Qa h3;have H4:=Qa h4;have H5:=Qa h5;have c7:L.length<=1000000000:=by have:=congrArg List.length h4;simp at this;omega
 have hkt:=CJ;clear h1 h2 h3 h4 h5 h6 b9;go_enter Tryz.func21,Tryz.ntmps21;go_wp2_with fail;(with_reducible refine hin.out.mono ?_);rintro e w1 ⟨rfl,k,rfl⟩;obtain⟨wk,a4⟩:∃wk,w.drewN k=wk:=⟨_,rfl⟩;have a2:Below w.heap.size w wk:=by rw[<-a4];exact az (Zd _ _) k
 have c2:=aa (aj H2.out a2) (j:=2) (u:=.bool false) rfl;have a5:=Qa a2;rw[a4];clear a4 a2;have b4:=Qa (HQ.out wk a5.out);go_wp2_with fail;(with_reducible refine b4.out.mono ?_);rintro e w2 ⟨v,rfl,a9,b0⟩;have a3:=Qa (a5.out.trans (b0.mono a5.out.size));obtain⟨Aq,qq,rfl,-⟩:=ah a9;have c0:=aa (aj H2.out a3.out) (j:=0) (u:=.slice At L.length ct) rfl;clear a9 b0 c2;go_wp2_with fail
 go_loopg [10,39] L.length (fun k _ s39 wr=> ∃i:Nat,k+i=L.length/\s39 =.int .i64 i/\Below w2.heap.size w2 wr/\∀ (j:Nat) (p:ByteArray×Value),j<i->L[j]?=some p->p.1≠s)
 case atStart=>exact⟨0,rfl,rfl,Zd _ _,fun j p h=>by omega⟩
 case round=>
  obtain⟨i,hk,rfl,hb,b2⟩:=hrel;have Hb:=Qa (a3.out.trans (hb.mono a3.out.size));have c5:=Qa hb;have b3:=Qa b2;have Hk:=Qa hk;clear b2 hb hk c0
  by_cases hlt:i<L.length
  ·obtain⟨p,hp⟩:∃p,L[i]?=some p:=⟨_,Zc hlt⟩;obtain⟨gm,rfl,q0,q1⟩:=(xW.rm H3.out).2.below Hb.out i p hp;obtain⟨tv,xv,hx⟩:∃t x,p.2 =.iface t x:=by
    have b8:=H5.out.1;obtain⟨b,hb⟩:∃b,(ms.map Prod.snd)[i]?=some b:=⟨_,Zc (by rw[<-b8];simpa using hlt)⟩;exact(H5.out.2 i p.2 b (by rw[List.getElem?_map,hp];rfl) hb).iface
   rw[hx] at q1;have a7:(i:Int)<L.length:=by omega
   have Hp:=Qa hp
   by_cases he:p.1=s
   ·have c4:(p.1.toList==s.toList)=true:=by rw[he];simp
    have a6:=ac wr (.cells #[.string p.1,.iface tv xv] 111);have cT:=Zf (Hb.out.trans (a6.mono Hb.out.size)) HT.out;have b5:=Qa (Hb.out.trans (a6.mono Hb.out.size));have He:=Qa he;clear hp hx he a6;go_wp2_with fail;go_ret;exact .inl ⟨by rw[<-H4.out];exact List.mem_map.2 ⟨p,Zk Hp.out,He.out⟩,rfl,b5.out⟩
   ·have c4:(p.1.toList==s.toList)=false:=by rw[gj];simpa using he
    have He:=Qa he;clear hp hx he;go_wp2_with fail;go_roundg (L.length - (i+1))
    case measure=>have:=Hk.out;omega
    case rel=>
     refine⟨i+1,by omega,by go_num,bE c5.out (ac _ _),fun j q hj hq=>?_⟩
     by_cases e:j=i
     ·subst e;rw[Hp.out] at hq;rw[<-Zh hq];exact He.out
     ·exact b3.out j q (by omega) hq
  ·obtain rfl:i=L.length:=by have:=Hk.out;omega
   have a7:¬ (L.length:Int)<L.length:=by omega
   have hr:=aj H2.out Hb.out;have k1:=aa hr (j:=1) (u:=.string s0) rfl;have f1:=am hr 1;have a0:=aw hr 1 (.string s);have k2:=aa a0 (j:=2) (u:=.bool false) rfl;have f2:=am a0 2;have Hr:=Qa a0;have c6:=Qa hlt;clear hr a0 hlt;go_wp2_with fail;go_ret;have c3:=HA.out.below Hb.out;have hc:br (fun k=>k=gt) wr ((wr.setCell ⟨gt,1,none⟩ (.string s)).setCell ⟨gt,2,none⟩ (.bool true)):=(br.set gt 1 _).trans (br.set gt 2 _) fun i hi=>.inl hi
   have b1:xW wr B (.slice At L.length ct) L:=aq H3.out Hb.out (Za _);have hne:=aO H3.out H2.out (by decide);have c1:s∉ms.map Prod.fst:=fun hm=>by
    rw[<-H4.out] at hm;obtain⟨p,hp,b6⟩:=List.mem_map.1 hm;obtain⟨j,hj,rfl⟩:=List.getElem_of_mem hp;exact b3.out j _ hj (Zc hj) b6
   obtain⟨bs',hs⟩:=c3.swap (m':=(gt,.slice At L.length ct)) (f':=⟨true, [],ms,some s⟩) hc (fun k hk=>by subst hk;simp[dP]) (fun k hk=>.inl hk) (by
     refine List.nodup_cons.2 ⟨fun hk=>hne (by simpa using hk),?_⟩
     cases (Value.slice At L.length ct).ownBlock <;> simp) (fun bs2 hm b7 a1=>.table gt At ct L ms s (some s) H1.out (aw Hr.out 2 _) (bH b1 fun b hb=>hc.block b (ae (al b1 hb).2.choose_spec) fun e=>hne (by rw[hb,e])) H4.out ((H5.out.mono fun _ _ h=>h.later Hb.out).mono fun _ _ h=>h.move hm.mv a1 b7) (fun t e=>Zh e))
   exact .inr ⟨c1,rfl,(yn.new Hb.out HB.out).trans (.chg hc (Zb HB.out Hb.out.size) fun i e=>by subst e;exact⟨H1.out,_,_,_,aj H2.out Hb.out,.inl (.inr (.inr rfl))⟩),bs',_,_,_,_,hs⟩
end
section
variable {B g:Nat}{w:World}{bs:List Nat}{frs:List Fr}{a aU aE:Addr}{v:Value}{j j0:JV}{P:Nat->Prop}
theorem DO (h:tN B w g frs none bs)(ht:Ij frs none=true)(hv:VW (Pb B bs) w v j)(hP:du w)(hG:cR w aU aE)(tx:Tx j)(sz:Sz j)(hx:(JV.txt j).length<=140737488355328)(hB:B<=w.heap.size)(hl:frs.length<=1000000000)(hi:∀f∈frs,Jn f) :
  Calls Tryz.prog 22 #[.pointer (some ⟨g,0,none⟩),v] w fun e w'=>Jf B g (cW frs j).frs (cW frs j).done w e w':=by
 have H1:=Qa (jN hv hP hG tx sz hx);have H2:=Qa (fun w1 (hw:Below w.heap.size w w1)=>ot (h.below hw) hl);have H3:=Qa (fun w1 (hw:Below w.heap.size w w1)=>mr (h.below hw) ht (hv.later hw) (Zb hB hw.size) hl hi);rw[ht] at H2;have HB:=Qa hB;generalize JV.txt j=tl at *;obtain⟨t,x,rfl⟩:=hv.iface;clear h ht hv hP hG tx sz hx hB hl hi;go_enter Tryz.func22,Tryz.ntmps22;go_wp2_with fail;(with_reducible refine H1.out.mono ?_);rintro e w1 ⟨u,rfl,ho,a0⟩;obtain⟨A,q,rfl,-⟩:=ah ho;have a4:=Qa a0;have a6:=Qa (H2.out w1 a0);clear ho a0;go_wp2_with fail;(with_reducible refine a6.out.mono ?_);rintro e w2 ⟨rfl,a2⟩;have a3:=Qa (a4.out.trans (a2.mono a4.out.size));have a7:=Qa (H3.out w2 a3.out);clear a2;go_wp2_with fail;(with_reducible refine a7.out.mono ?_);rintro e w3 ⟨rfl,a1,bs',hs⟩;have a5:=Qa a1;have Hs:=Qa hs;clear a1 hs;go_wp2_with fail;go_ret;exact⟨rfl,(yn.new a3.out HB.out).trans a5.out,bs',Hs.out⟩
theorem vD (h:tN B w g [] (some j) bs)(hP:du w)(hG:cR w aU aE)(tx:Tx j)(sz:Sz j)(hx:(JV.txt j).length<=140737488355328):Calls Tryz.prog 24 #[.pointer (some ⟨g,0,none⟩)] w (Gt (JV.txt j) w):=by
 obtain⟨A,c,dv,us,h⟩:=h;obtain⟨rfl,rfl⟩:=h.empty;have hr:=h.row;have hd:VW (Pb B []) w dv j:=h.done;have H1:=Qa (jN hd hP hG tx sz hx);obtain⟨t,x,rfl⟩:=hd.iface;have c0:=aa hr (j:=0) (u:=.slice A 0 c) rfl;have c1:=aa hr (j:=1) (u:=.iface t x) rfl;generalize JV.txt j=tl at *;clear h hr hd hP hG tx sz hx;go_enter Tryz.func24,Tryz.ntmps24;go_wp2_with fail;(with_reducible refine H1.out.mono ?_);rintro e w1 ⟨u,rfl,ho,a0⟩;obtain⟨A2,q,rfl,-⟩:=ah ho;have a1:=Qa a0;have Ho:=Qa ho;clear ho a0;go_wp2_with fail;go_ret2;exact⟨_,rfl,Ho.out,a1.out⟩
end
section
variable {B g:Nat}{w:World}{bs:List Nat}{fs:List Fr}{its:List JV}{ms:List (ByteArray×JV)}
theorem cv.freshW {k:Nat}{xs:List Value}(h:cv (w.heap.size<= ·) w' e k A n c xs)(hB:B<=w.heap.size)(a0:∀g∈bs,g<w.heap.size):cv (Pb B bs) w' e k A n c xs:=
 h.stay fun g o hp hg _ _=>⟨⟨Zb hB hp,fun hb=>by have:=a0 g hb;omega⟩,hg⟩
theorem rG (h:tN B w g (⟨true, [],ms,none⟩::fs) none bs)(ht:Ij fs none=true)(hB:B<=w.heap.size)(hl:fs.length<1000000000)(hi:∀f∈fs,Jn f)(hn:ms.length<=1000000000)(b9:∀s∈ms.map Prod.fst,kf s)(b2:(ms.map Prod.fst).Nodup) :
  Calls Tryz.prog 23 #[.pointer (some ⟨g,0,none⟩)] w fun e w'=>Jf B g (cW fs (mJ (gw ms))).frs (cW fs (mJ (gw ms))).done w e w':=by
 obtain⟨A,c,dv,us,hA⟩:=h;obtain⟨u,m,us,rfl,hw,d1⟩:=hA.innermost;have hin:=Qa (hA.in_top hl);have HA:=Qa hA;have HB:=Qa hB;have hlt:=hA.lt
 cases hw with
 |table gt At ct L ms s0 nm h1 h2 h3 h4 h5 h6=>
 have d2:L.length=ms.length:=by have:=congrArg List.length h4;simpa using this
 have HE:=Qa (fun k=>sK (w:=w.drewN k) (K:=fun gl w1=>Below w.heap.size w w1/\VW (Pb B bs) w1 (.iface 130 (.pointer (some ⟨gl,0,none⟩))) (mJ (gw ms))) h2 rfl ((gL (w:=w.drewN k) (zd.of_own h3) (fun p hp=>by
   obtain⟨i,hi,rfl⟩:=List.getElem_of_mem hp;exact⟨b9 _ (by rw[<-h4];exact List.mem_map.2 ⟨_,List.getElem_mem hi,rfl⟩),(h5.2 i L[i].2 ((ms[i]'(by omega)).2) (by rw[List.getElem?_map,Zc hi];rfl) (by rw[List.getElem?_map,Zc (by omega)];rfl)).iface⟩) (by rw[h4];exact b2) (by omega)).mono (by
  rintro e w1 ⟨gl,A1,c1,S,rfl,c6,a7,c7,c8,hp,hs⟩;have hb:Below w.heap.size w w1:=(az (Zd _ _) k).trans c6;have a7:w.heap.size<=gl:=a7;have b1:S.length=L.length:=hp.length_eq;exact⟨gl,rfl,hb,xG (by rw[b1];exact c7) (by rw[b1];exact c8.freshW hB hlt) ⟨Zb hB a7,fun hk=>by have:=hlt gl hk;omega⟩ hp hs h4 (h5.mono fun _ _ h=>h.later hb)⟩)))
 have Ht:=Qa ht;have Hi:=Qa hi;have Hl:=Qa hl;obtain⟨n,a6⟩:∃n,us.length=n:=⟨_,rfl⟩;have d5:n<1000000000:=by omega
 have d4:n+1<=c:=by
  obtain⟨_,_,e,hc,_⟩:=ah hA.own;obtain⟨-,-,rfl⟩:=Value.slice.inj e;rw[List.length_cons,a6] at hc;exact hc
 obtain⟨go,d0⟩:∃go,A=some ⟨go,0,none⟩:=by
  obtain⟨_,_,e,_,_,hA⟩:=ah hA.own;obtain⟨rfl,-,-⟩:=Value.slice.inj e;exact hA (by simp)
 subst d0;have b6:=Qa a6;clear hA ht hB hi hn h1 h2 h3 h4 h5 h6 b9 b2 hlt d2 d1 a6 hl;go_enter Tryz.func23,Tryz.ntmps23;go_wp2_with fail;(with_reducible refine hin.out.mono ?_);rintro e w1 ⟨rfl,k,rfl⟩;have b5:=Qa (HE.out k);go_wp2_with fail;(with_reducible refine b5.out.mono ?_);rintro e w2 ⟨gl,rfl,w3,m3,⟨b3,b4⟩,rfl⟩;have a5:Below w.heap.size w (w3.drewN m3):=az b3 m3;have Hv:=Qa (b4.drewN m3);obtain⟨w4,c5⟩:∃w4,w3.drewN m3=w4:=⟨_,rfl⟩;rw[c5] at a5 Hv ⊢;have c3:=Qa a5;have a3:=Qa (HA.out.below a5);clear b3 b4 c5 a5 HE b5;have a2:=a3.out.row;rw[List.length_cons,b6.out] at a2;have c0:=aa a2 (j:=0) (u:=.slice (some ⟨go,0,none⟩) (n+1) c) rfl;have s1:IntKind.i64.wrap ((n:Int)+1 - 1)=n:=by rw[IntWalk.i64_in _ (by omega)];omega
 have s2:IntKind.i64.wrap (n:Int)=n:=IntWalk.i64_in _ (by omega);have s3:(((n+1:Nat):Int))= (n:Int)+1:=by omega
 have s4:(n:Int)<=c:=by omega
 have c0d:w4.drew.cell? ⟨g,0,none⟩=some (.slice (some ⟨go,0,none⟩) (n+1) c):=c0;have f0d:w4.drew.frozen? ⟨g,0,none⟩=false:=am a2 0;clear a2 c0;go_wp2_with fail;refine dj (fun w'=>w'.cell? ⟨g,0,none⟩=some (.slice (some ⟨go,0,none⟩) (n+1) c)) 14 (c0d) fun a0=>?_
 refine tZ 0 a0 ?_;refine tZ 1 a0 ?_;refine tZ 2 a0 ?_;refine tZ 3 a0 ?_;refine tZ 4 a0 ?_;refine tZ 5 a0 ?_
 try simp only[Act.put,jP,jQ,jR]
 refine tZ 6 a0 ?_;refine tZ 7 a0 ?_;refine tZ 8 a0 ?_;refine tZ 9 a0 ?_;refine tZ 10 a0 ?_;refine tZ 11 a0 ?_
 try simp only[Act.put,jP,jQ,jR]
 refine rZ 12 fun K hK=>?_
 go_simp;refine hK.out _ _ (fun _=>a0) (fun a0=>?_);clear hK K;have a0:=a0 (by decide)
 try simp only[Act.put,jP,jQ,jR]
 refine tZ 13 a0 ?_
 try simp only[Act.put,jP,jQ,jR]
 refine rZ 14 fun K hK=>?_
 go_simp;refine hK.out _ _ (fun h=>absurd rfl h) (fun _=>?_);clear hK K
 try simp only[Act.put,jP,jQ,jR]
 refine bi (by kernel_rfl) (NoPanic.normal ?_) _;obtain⟨w5,a4⟩:∃w5,(w4.setCell ⟨g,0,none⟩ (.slice (some ⟨go,0,none⟩) n c)).drew=w5:=⟨_,rfl⟩;have b7:kF B w4.drew g _ none _ c dv _ bs:=a3.out.below (Zd _ _).drew;have a1:=b7.pop;rw[b6.out] at a1;have a1:kF B w5 g fs none (some ⟨go,0,none⟩) c dv us (us.flatMap fun u=>dP u.2):=by rw[<-a4];exact a1
 have a9:br (fun k=>k=g) w4 w5:=by rw[<-a4];exact(br.of_below (Zd _ _).drew).trans (br.set g 0 (.slice (some ⟨go,0,none⟩) n c)) fun i h=>.inl h
 have hm:Mw [] w4 w5:=Mw.of_chg a9 fun k hk _=>.inr (by subst hk;exact⟨_,_,_,a3.out.row,gZ⟩)
 have c2:=Hv.out.move (bs':=us.flatMap fun u=>dP u.2) hm.mv (by simp) (fun k hk=>.inl (by rw[<-a3.out.blocks];exact List.mem_append_right _ hk));have b8:=Qa ((yn.new c3.out HB.out).trans (.chg a9 (Zb HB.out c3.out.size) fun i e=>by subst e;exact⟨a3.out.low,_,_,_,a3.out.row,.inr (.inl rfl)⟩));have c4:=mr ⟨_,_,_,_,a1⟩ Ht.out c2 (Zb HB.out b8.out.b.size) (by have:=Hl.out;omega) Hi.out;rw[a4];have d3:=Qa c4;clear b7 a9 hm c2 c4 a4 c0d f0d a0;go_wp2_with fail;(with_reducible refine d3.out.mono ?_);rintro e w6 ⟨rfl,b0,bs',hs⟩;have c9:=Qa b0;have Hs:=Qa hs;clear b0 hs;go_wp2_with fail;go_ret;exact⟨rfl,b8.out.trans c9.out,bs',Hs.out⟩
end
section
variable {B g c:Nat}{w:World}{bs:List Nat}{A:Option Addr}{dv u:Value}{f:Fr}{frs:List Fr}{us:List (Value×Nat×Value)}
theorem un (h:tN B w g frs none bs)(ht:Ij frs none=true)(hB:B<=w.heap.size)(hl:frs.length<=1000000000):Calls Tryz.prog 20 #[.pointer (some ⟨g,0,none⟩),.int .u8 123] w (Jf B g (⟨true, [], [],none⟩::frs) none w):=by
 have HT:=Qa (ot h hl);rw[ht] at HT;have Hl:=Qa hl;have H:=Qa h;clear h ht hl;go_enter Tryz.func20,Tryz.ntmps20;go_wp2_with fail;(with_reducible refine HT.out.mono ?_);rintro e w1 ⟨rfl,a0⟩;obtain⟨A,c,dv,us,hA⟩:=H.out.below a0;have a7:us.length=frs.length:=hA.frames.1;obtain⟨n,hn⟩:∃n,us.length=n:=⟨_,rfl⟩;have b2:n<=1000000000:=by have:=Hl.out;omega
 have hh:=hA.row;have ho:=hA.own;rw[hn] at hh ho;have c0:=aa hh (j:=0) (u:=.slice A n c) rfl;have a1:Below w1.heap.size w1 ((w1.alloc (.cells #[.slice none 0 0,.string ⟨#[]⟩,.bool false] 104)).alloc (.cells #[EA w1.heap.size] 107)):=((Zd _ _).alloc (Za _) _).alloc (by simp) _;have a4:=Qa (aq ho a1 (Za _));have a9:=Qa (ar (w1.alloc (.cells #[.slice none 0 0,.string ⟨#[]⟩,.bool false] 104)) [EA w1.heap.size] 107);have a2:=Qa (aj hh a1);have a6:=Qa (aO a4.out a2.out (by decide));have a3:=Qa ((Below.heap_alloc (w1.alloc (.cells #[.slice none 0 0,.string ⟨#[]⟩,.bool false] 104)) (.cells #[EA w1.heap.size] 107) w1.heap.size (by simp)).trans (Ze w1 (.cells #[.slice none 0 0,.string ⟨#[]⟩,.bool false] 104)));have HA:=Qa hA;have b1:=Qa a0;have a5:=Qa a1;have HB:=Qa (Zb hB a0.size);have b0:=Qa hB;have Hn:=Qa hn;clear hA a0 a1 hh ho a7 hn H hB;go_wp2_with (at_builtin;refine ju GF a4.out (by have:=a9.out;rw[World.size_alloc] at this;exact this) (Zb HB.out a5.out.size) ?_;intro v' w5 p1 p2 p3;obtain⟨A5,q5,rfl,-,-,-⟩:=ah p1;have g5:=aF a2.out p2 a6.out;have f5:=am g5 0;have c5:=aa g5 (j:=0) (u:=.slice A n c) rfl;have HK:=Qa p1;have HG:=Qa p2;clear p1 p2 p3 g5);go_ret;obtain rfl:=Hn.out;obtain⟨r1,r2⟩:=HA.out.push (f:=⟨true, [], [],none⟩) HB.out a5.out (Za _) (ae a3.out) HG.out HK.out (fun P w' e=>.table w1.heap.size none 0 [] [] ⟨#[]⟩ none HB.out (e.trans a3.out) ⟨rfl,.inl ⟨rfl,rfl⟩⟩ rfl (bB.nil _) (fun t e=>by cases e));exact⟨rfl,(yn.new b1.out b0.out).trans r1,_,_,_,_,_,r2⟩
end
structure yj (w:World):Prop where
 env:∃aU aE,qJ w aU aE
 may:kR w
 pow:du w
 eNil:bC w 0
 eTwice:bC w 2
 eHidden:bC w 1
 eSyntax:bC w 3
theorem yj.below (h:yj w)(hb:Below w.heap.size w w'):yj w':=by
 obtain⟨⟨aU,aE,h1⟩,h2,h3,h4,h5,h6,h7⟩:=h;exact⟨⟨aU,aE,h1.below hb⟩,h2.below hb,h3.below hb,h4.below hb,h5.below hb,h6.below hb,h7.below hb⟩
theorem rP (a:Addr)(W:World):(binOp .neq 49 (bL a) (bL a)).run Tryz.prog W =.ok (.bool false) W:=by
 obtain⟨i,hi,hc⟩:=Option.map_eq_some_iff.1 CS;obtain⟨j,hj,hs⟩:=Option.map_eq_some_iff.1 DI;simp only[binOp];simp[Op.equal,Op.maxDepth,run_equalIn_iface_ptr_same W 9998 a Tryz.underlying49 Tryz.underlying427 hi hc hj]
theorem ji (w:World)(xs:List UInt8)(hm:xs.length<=9223372036854775807):Bs (w.alloc (.cells (gS xs).toArray 5 (xs.length,xs.length+1))) (.slice (some ⟨w.heap.size,0,none⟩) xs.length xs.length) xs:=qG xs hm (Za _) (Ze w _)
theorem gD:sZ ⟨false,⟨#[]⟩,0⟩:=⟨by decide,by decide,by decide⟩
theorem fe {k:Int}{t:Bool}{x:ByteArray}:x.size<=1000000000->d.digits.size<=1000000000->Sz (.mk k t x d [] []):=fun h1 h2=>.mk _ _ _ _ _ _ h1 h2 (by simp) (by simp)
theorem Gl:Sz In:=by
 refine .mk _ _ _ _ _ _ (by decide) (by decide) (by simp;decide) (fun u hu=>?_);simp only[List.mem_cons,List.mem_nil_iff,or_false] at hu;rcases hu with rfl|rfl
 ·exact fe (by decide) (by decide)
 ·refine .mk _ _ _ _ _ _ (by decide) (by decide) (by simp) (fun u hu=>?_);simp only[List.mem_cons,List.mem_nil_iff,or_false] at hu;rcases hu with rfl|rfl <;> exact fe (by decide) (by decide)
theorem Cf:Tx (dU [ef ⟨false,⟨#[49]⟩,0⟩,ef ⟨false,⟨#[50]⟩,0⟩]):=by
 refine .list _ fun u hu=>?_
 simp only[List.mem_cons,List.mem_nil_iff,or_false] at hu;rcases hu with rfl|rfl
 ·exact .num _ (.inr ⟨⟨by decide,by decide,by decide,by decide⟩,by decide,by decide⟩)
 ·exact .num _ (.inr ⟨⟨by decide,by decide,by decide,by decide⟩,by decide,by decide⟩)
theorem D5:Sz (dU [ef ⟨false,⟨#[49]⟩,0⟩,ef ⟨false,⟨#[50]⟩,0⟩]):=by
 refine .mk _ _ _ _ _ _ (by decide) (by decide) (by simp) (fun u hu=>?_);simp only[List.mem_cons,List.mem_nil_iff,or_false] at hu;rcases hu with rfl|rfl <;> exact fe (by decide) (by decide)
def bS:ByteArray:=⟨#[98]⟩
theorem rC:dB bS:=⟨[98],by decide,by decide⟩
def bJ:JV:=mJ [(bS,fT true)]
theorem CW:bJ.txt = [123,34,98,34,58,116,114,117,101,125]:=by rfl
theorem I0:Tx bJ:=.obj [bS] [fT true] rfl (fun s hs=>by rw[List.mem_singleton.1 hs];exact rC) (List.pairwise_singleton _ _) (fun u hu=>by rw[List.mem_singleton.1 hu];exact .bool true)
theorem I4:Sz bJ:=.mk _ _ _ _ _ _ (by decide) (by decide) (fun s hs=>by rw[List.mem_singleton.1 hs];decide) (fun u hu=>by rw[List.mem_singleton.1 hu];exact fe (by decide) (by decide))
theorem Gk (h:w'.heap[w.heap.size]?=some (.cells #[.slice none 0 0,.nilIface] 97 (0,0))):tN w.heap.size w' w.heap.size [] none []:=
 ⟨none,0,.nilIface, [],h,Za _,⟨rfl,.inl ⟨rfl,rfl⟩⟩,bB.nil _,rfl,List.nodup_nil,rfl⟩
theorem mj {w12:World}{a:Addr}(h:w10.cell? ⟨g,0,none⟩=some (bL a))(h1:Below w8.heap.size w8 w10)(h2:Below w8.heap.size w8 w12)(he:bC w8 g):w12.cell? ⟨g,0,none⟩=some (bL a):=by
 obtain⟨b,hb⟩:=he;have e:=Zf h1 hb;rw[h] at e;rw[Zh e];exact Zf h2 hb
theorem yO {a:Addr}(h:w10.cell? ⟨g,0,none⟩=some (bL a))(h1:Below w8.heap.size w8 w10)(he:bC w8 g):w8.cell? ⟨g,0,none⟩=some (bL a):=mj h h1 (Zd _ _) he
def JE (w:World)(e:Ending)(w':World):Prop:=e =.returned (.bool true)/\Below w.heap.size w w'
theorem Ay (hL:yj w):Calls Tryz.prog 6 #[] w (JE w):=by
 have a4:=ac w (.cells #[.int .u8 123,.int .u8 32,.int .u8 34,.int .u8 98,.int .u8 34,.int .u8 32,.int .u8 58,.int .u8 32,.int .u8 91,.int .u8 49,.int .u8 46,.int .u8 53,.int .u8 48,.int .u8 44,.int .u8 32,.int .u8 49,.int .u8 101,.int .u8 50,.int .u8 93,.int .u8 44,.int .u8 32,.int .u8 34,.int .u8 97,.int .u8 92,.int .u8 117,.int .u8 48,.int .u8 48,.int .u8 54,.int .u8 50,.int .u8 34,.int .u8 32,.int .u8 58,.int .u8 32,.int .u8 110,.int .u8 117,.int .u8 108,.int .u8 108,.int .u8 32,.int .u8 125] 5 (39,40));have f5:=Qa a4;have H1:=Qa (show Calls Tryz.prog 16 #[.slice (some ⟨w.heap.size,0,none⟩) 39 39] (w.alloc (.cells #[.int .u8 123,.int .u8 32,.int .u8 34,.int .u8 98,.int .u8 34,.int .u8 32,.int .u8 58,.int .u8 32,.int .u8 91,.int .u8 49,.int .u8 46,.int .u8 53,.int .u8 48,.int .u8 44,.int .u8 32,.int .u8 49,.int .u8 101,.int .u8 50,.int .u8 93,.int .u8 44,.int .u8 32,.int .u8 34,.int .u8 97,.int .u8 92,.int .u8 117,.int .u8 48,.int .u8 48,.int .u8 54,.int .u8 50,.int .u8 34,.int .u8 32,.int .u8 58,.int .u8 32,.int .u8 110,.int .u8 117,.int .u8 108,.int .u8 108,.int .u8 32,.int .u8 125] 5 (39,40))) _ from by
  obtain⟨⟨aU,aE,hE⟩,hM,hP,-⟩:=hL.below a4;exact uf (v:=.slice (some ⟨w.heap.size,0,none⟩) 39 39) (xs:=Jm) (j:=In) hE hM hP (ji w Jm (by decide)) (by decide) (by decide) DM Gs Gl (by rw[Dg];decide))
 rw[Dg] at H1;have HL:=Qa hL;clear hL a4;have q0:=fun (w:World) (C:Array Value) (n c:Nat)=>Lib.run_convert_bytes_const (P:=Tryz.prog) w 22 5 C n c Tryz.underlying22 Tryz.underlying5
 go_enter Tryz.func6,Tryz.ntmps6;go_wp2_with fail;(with_reducible refine H1.out.mono ?_);rintro e w1 ⟨u1,rfl,f3,g6⟩;have f2:=Qa (f5.out.trans (g6.mono f5.out.size));have a1:=Qa (au.bs f3);obtain⟨A1,q1,rfl,-⟩:=ah f3;clear f3 g6 H1 f5;obtain⟨aN,hN⟩:=(HL.out.below f2.out).eNil;have HN:=Qa hN;have H2:=Qa (AI hN);clear hN;go_wp2_with fail;(with_reducible refine H2.out.mono ?_);rintro e w2 ⟨rfl,e5⟩;have e8:=Qa (f2.out.trans (e5.mono f2.out.size));replace a1:=Qa (a1.out.below e5);replace HN:=Qa (Zf e5 HN.out);obtain⟨aH,hH⟩:=(HL.out.below e8.out).eHidden;have HH:=Qa hH;have H3:=Qa (yT hH);clear hH e5 H2 f2;go_wp2_with fail;(with_reducible refine H3.out.mono ?_);rintro e w3 ⟨rfl,c2⟩;have g3:=Qa (e8.out.trans (c2.mono e8.out.size));replace a1:=Qa (a1.out.below c2);replace HN:=Qa (Zf c2 HN.out);replace HH:=Qa (Zf c2 HH.out);clear c2 H3 e8;have f4:=ac w3 (.cells #[.int .u8 49] 5 (1,2));have g1:=ac (w3.alloc (.cells #[.int .u8 49] 5 (1,2))) (.cells #[.int .u8 49,.int .u8 46,.int .u8 48] 5 (3,4));have c4:=f4.trans (g1.mono f4.size);have a3:=Qa (g3.out.trans (c4.mono g3.out.size));have H4:=Qa (show Calls Tryz.prog 18 #[.slice (some ⟨w3.heap.size,0,none⟩) 1 1,.slice (some ⟨w3.heap.size+1,0,none⟩) 3 3] ((w3.alloc (.cells #[.int .u8 49] 5 (1,2))).alloc (.cells #[.int .u8 49,.int .u8 46,.int .u8 48] 5 (3,4))) _ from by
  obtain⟨⟨aU,aE,hE⟩,hM,hP,-⟩:=HL.out.below a3.out;have b2:=ji (w3.alloc (.cells #[.int .u8 49] 5 (1,2))) [49,46,48] (by decide);rw[World.size_alloc] at b2;exact Ce (v:=.slice (some ⟨w3.heap.size,0,none⟩) 1 1) (v':=.slice (some ⟨w3.heap.size+1,0,none⟩) 3 3) (xs:= [49]) (xs':= [49,46,48]) (j:=ef ⟨false,⟨#[49]⟩,0⟩) (j':=ef ⟨false,⟨#[49]⟩,0⟩) hE hM hP ((ji w3 [49] (by decide)).below g1) (by decide) (by decide) AS b2 (by decide) (by decide) yU)
 rw[dy.2 rfl] at H4;have q4:=Joins.run_convert_bytes_const_at (P:=Tryz.prog) (w3.alloc (.cells #[.int .u8 49] 5 (1,2))) 22 5 #[.int .u8 49,.int .u8 46,.int .u8 48] 3 3 (w3.heap.size+1) (by simp) Tryz.underlying22 Tryz.underlying5;replace a1:=Qa (a1.out.below c4);replace HN:=Qa (Zf c4 HN.out);replace HH:=Qa (Zf c4 HH.out);clear f4 g1 c4 g3;go_wp2_with fail;(with_reducible refine H4.out.mono ?_);rintro e w4 ⟨rfl,c7⟩;have f1:=Qa (a3.out.trans (c7.mono a3.out.size));replace a1:=Qa (a1.out.below c7);replace HN:=Qa (Zf c7 HN.out);replace HH:=Qa (Zf c7 HH.out);clear c7 H4 a3;have H5:=Qa (show Calls Tryz.prog 17 #[.iface 57 (.pointer none)] w4 _ from by
  obtain⟨⟨aU,aE,hE⟩,hM,hP,-⟩:=HL.out.below f1.out;exact jN (P:=fun _=>True) (j:=dU []) .bare hP hE.glob (.list [] (by simp)) (fe (by decide) (by decide)) (by decide))
 rw[show(dU []).txt = [91,93] from rfl] at H5;go_wp2_with fail;(with_reducible refine H5.out.mono ?_);rintro e w5 ⟨u5,rfl,f9,e2⟩;have f0:=Qa (f1.out.trans (e2.mono f1.out.size));replace a1:=Qa (a1.out.below e2);replace HN:=Qa (Zf e2 HN.out);replace HH:=Qa (Zf e2 HH.out);have b1:=Qa (au.bs f9);obtain⟨A5,q5,rfl,-⟩:=ah f9;clear f9 e2 H5 f1;have C1:=Qa (show Calls Tryz.prog 10 #[.iface 58 (.agg #[]),.iface 59 (.bool false)] w5 _ from by
  obtain⟨⟨aU,aE,hE⟩,hM,hP,-⟩:=HL.out.below f0.out;exact dG (P:=fun _=>True) (Q:=fun _=>True) (a:=some jY) (b:=some (fT false)) .null (.bool false) hP hE.glob (fun j e=>by cases e;exact Tx.jb .null (fe (by decide) (by decide))) (fun j e=>by cases e;exact Tx.jb (.bool _) (fe (by decide) (by decide))))
 rw[show iU (some jY) (some (fT false)) = -1 from rfl] at C1;go_wp2_with fail;(with_reducible refine C1.out.mono ?_);rintro e w6 ⟨rfl,b4⟩;have e7:=Qa (f0.out.trans (b4.mono f0.out.size));replace a1:=Qa (a1.out.below b4);replace b1:=Qa (b1.out.below b4);replace HN:=Qa (Zf b4 HN.out);replace HH:=Qa (Zf b4 HH.out);clear b4 C1 f0;have C2:=Qa (show Calls Tryz.prog 10 #[.iface 40 (.string ⟨#[98]⟩),.iface 40 (.string ⟨#[97,98]⟩)] w6 _ from by
  obtain⟨⟨aU,aE,hE⟩,hM,hP,-⟩:=HL.out.below e7.out;exact dG (P:=fun _=>True) (Q:=fun _=>True) (a:=some (eW ⟨#[98]⟩)) (b:=some (eW ⟨#[97,98]⟩)) (.text _) (.text _) hP hE.glob (fun j e=>by cases e;exact .mk _ _ _ _ _ _ (by decide) gD (by simp) (by simp)) (fun j e=>by cases e;exact .mk _ _ _ _ _ _ (by decide) gD (by simp) (by simp)))
 rw[show iU (some (eW ⟨#[98]⟩)) (some (eW ⟨#[97,98]⟩))=1 from rfl] at C2;go_wp2_with fail;(with_reducible refine C2.out.mono ?_);rintro e w7 ⟨rfl,b6⟩;have e4:=Qa (e7.out.trans (b6.mono e7.out.size));replace a1:=Qa (a1.out.below b6);replace b1:=Qa (b1.out.below b6);replace HN:=Qa (Zf b6 HN.out);replace HH:=Qa (Zf b6 HH.out);clear b6 C2 e7;have C3:=Qa (show Calls Tryz.prog 10 #[.nilIface,.nilIface] w7 _ from by
  obtain⟨⟨aU,aE,hE⟩,hM,hP,-⟩:=HL.out.below e4.out;exact dG (P:=fun _=>True) (Q:=fun _=>True) (a:=none) (b:=none) rfl rfl hP hE.glob (fun j e=>by cases e) (fun j e=>by cases e))
 rw[show iU none none=0 from rfl] at C3;go_wp2_with fail;(with_reducible refine C3.out.mono ?_);rintro e w8 ⟨rfl,b5⟩;have a2:=Qa (e4.out.trans (b5.mono e4.out.size));replace a1:=Qa (a1.out.below b5);replace b1:=Qa (b1.out.below b5);replace HN:=Qa (Zf b5 HN.out);replace HH:=Qa (Zf b5 HH.out);clear b5 C3 e4;go_wp2_with fail;(with_reducible refine o9.mono ?_);rintro e w9 ⟨rfl,g5,g4⟩;have H9:=Qa g4;have g7:=Qa (Gk g5);clear g5 g4;have O1:=Qa (un g7.out rfl H9.out.size (Zj _));go_wp2_with fail;(with_reducible refine O1.out.mono ?_);rintro e w10 ⟨rfl,e1,bs10,c0⟩;have b7:=Qa (H9.out.trans e1.b);have c5:=Qa c0;clear e1 c0 O1 g7 H9;obtain⟨aT,hT⟩:=(HL.out.below (a2.out.trans (b7.out.mono a2.out.size))).eTwice;have d0:=Qa hT;have N1:=Qa (show Calls Tryz.prog 21 #[.pointer (some ⟨w8.heap.size,0,none⟩),.string ⟨#[98]⟩] w10 _ from by
  obtain⟨⟨aU,aE,hE⟩,-⟩:=HL.out.below (a2.out.trans (b7.out.mono a2.out.size));exact qu c5.out rC hE.glob (by decide) hT b7.out.size (by decide) (by decide))
 clear hT;go_wp2_with fail;(with_reducible refine N1.out.mono ?_);rintro e w11 (⟨hx,-⟩|⟨-,rfl,d3,bs11,b9⟩)
 ·exact absurd hx (by simp)
 have e6:=Qa (b7.out.trans d3.b);have c1:=Qa b9;clear d3 b9 N1 c5;have P1:=Qa (show Calls Tryz.prog 22 #[.pointer (some ⟨w8.heap.size,0,none⟩),.iface 59 (.bool true)] w11 _ from by
  obtain⟨⟨aU,aE,hE⟩,hM,hP,-⟩:=HL.out.below (a2.out.trans (e6.out.mono a2.out.size));exact DO c1.out rfl (.bool true) hP hE.glob (.bool true) (fe (by decide) (by decide)) (by decide) e6.out.size (by decide) (fun f hf=>by rw[List.mem_singleton.1 hf];exact⟨by decide,by decide⟩))
 go_wp2_with fail;(with_reducible refine P1.out.mono ?_);rintro e w12 ⟨rfl,d5,bs12,c8⟩;have b3:=Qa (e6.out.trans d5.b);have a9:=Qa (show tN w8.heap.size w12 w8.heap.size (⟨true, [], [(bS,fT true)],none⟩:: []) none bs12 from c8);clear d5 c8 P1 c1 e6;have N2:=Qa (show Calls Tryz.prog 21 #[.pointer (some ⟨w8.heap.size,0,none⟩),.string ⟨#[98]⟩] w12 _ from by
  obtain⟨⟨aU,aE,hE⟩,-⟩:=HL.out.below (a2.out.trans (b3.out.mono a2.out.size));exact qu (s:=⟨#[98]⟩) a9.out rC hE.glob (by decide) (mj d0.out b7.out b3.out (HL.out.below a2.out).eTwice) b3.out.size (by decide) (by decide))
 go_wp2_with fail;(with_reducible refine N2.out.mono ?_);rintro e w13 (⟨-,rfl,a6⟩|⟨hx,-⟩)
 case inr=>exact absurd (List.mem_singleton.2 rfl) hx
 have g0:=Qa (b3.out.trans (a6.mono b3.out.size));have d4:=Qa (a9.out.below a6);clear a6 N2 a9 b3;have K1:=Qa (rG d4.out rfl g0.out.size (by decide) (fun f hf=>by cases hf) (by decide) (fun s hs=>by rw[List.mem_singleton.1 hs];exact⟨rC,by decide⟩) (List.pairwise_singleton _ _));go_wp2_with fail;(with_reducible refine K1.out.mono ?_);rintro e w14 ⟨rfl,b8,bs14,c3⟩;have g2:=Qa (g0.out.trans b8.b);have f8:=Qa (show tN w8.heap.size w14 w8.heap.size [] (some bJ) bs14 from c3);clear b8 c3 K1 d4 g0;have B1:=Qa (show Calls Tryz.prog 24 #[.pointer (some ⟨w8.heap.size,0,none⟩)] w14 _ from by
  obtain⟨⟨aU,aE,hE⟩,hM,hP,-⟩:=HL.out.below (a2.out.trans (g2.out.mono a2.out.size));exact vD f8.out hP hE.glob I0 I4 (by rw[CW];decide))
 rw[CW] at B1;go_wp2_with fail;(with_reducible refine B1.out.mono ?_);rintro e w15 ⟨u15,rfl,a5,d9⟩;have a0:=g2.out.trans (d9.mono g2.out.size);have cN:=Zf a0 HN.out;have cH:=Zf a0 HH.out;have cT:=Zf a0 (yO d0.out b7.out (HL.out.below a2.out).eTwice);have s1:(convert 22 9 (.slice A1 27 q1)).run Tryz.prog w15 =.ok (.string ⟨#[123,34,97,98,34,58,110,117,108,108,44,34,98,34,58,91,49,53,101,45,49,44,49,101,50,93,125]⟩) w15:=aW (a1.out.below a0);have s5:(convert 22 9 (.slice A5 2 q5)).run Tryz.prog w15 =.ok (.string ⟨#[91,93]⟩) w15:=aW (b1.out.below a0);have e0:=au.bs a5;have c6:=Qa (a2.out.trans (a0.mono a2.out.size));obtain⟨A15,q15,rfl,-⟩:=ah a5;have s15:(convert 22 9 (.slice A15 10 q15)).run Tryz.prog w15 =.ok (.string ⟨#[123,34,98,34,58,116,114,117,101,125]⟩) w15:=aW e0;have qe:=rP;have e3:=ac w15 (.cells #[.int .u8 91,.int .u8 49,.int .u8 44,.int .u8 50,.int .u8 93] 5 (5,6));have a7:=Qa (c6.out.trans (e3.mono c6.out.size));have I1:=Qa (show Calls Tryz.prog 25 #[.slice (some ⟨w15.heap.size,0,none⟩) 5 5] (w15.alloc (.cells #[.int .u8 91,.int .u8 49,.int .u8 44,.int .u8 50,.int .u8 93] 5 (5,6))) _ from by
  obtain⟨⟨aU,aE,hE⟩,hM,hP,-⟩:=HL.out.below a7.out;exact Dw (v:=.slice (some ⟨w15.heap.size,0,none⟩) 5 5) (xs:= [91,49,44,50,93]) hE hM hP (ji w15 [91,49,44,50,93] (by decide)) (by decide) (by decide) Af Cf D5 (by rw[mX];decide))
 rw[mX,decide_eq_true rfl] at I1;clear a5 d9 a0 B1 e3 e0;go_wp2_with fail;(with_reducible refine I1.out.mono ?_);rintro e w17 ⟨rfl,d2⟩;have d1:=Qa (a7.out.trans (d2.mono a7.out.size));have c9:=ac w17 (.cells #[.int .u8 91,.int .u8 49,.int .u8 44,.int .u8 32,.int .u8 50,.int .u8 93] 5 (6,7));have b0:=Qa (d1.out.trans (c9.mono d1.out.size));have I2:=Qa (show Calls Tryz.prog 25 #[.slice (some ⟨w17.heap.size,0,none⟩) 6 6] (w17.alloc (.cells #[.int .u8 91,.int .u8 49,.int .u8 44,.int .u8 32,.int .u8 50,.int .u8 93] 5 (6,7))) _ from by
  obtain⟨⟨aU,aE,hE⟩,hM,hP,-⟩:=HL.out.below b0.out;exact Dw (v:=.slice (some ⟨w17.heap.size,0,none⟩) 6 6) (xs:= [91,49,44,32,50,93]) hE hM hP (ji w17 [91,49,44,32,50,93] (by decide)) (by decide) (by decide) AG Cf D5 (by rw[mX];decide))
 rw[mX,decide_eq_false (by decide)] at I2;clear d2 c9 I1;go_wp2_with fail;(with_reducible refine I2.out.mono ?_);rintro e w19 ⟨rfl,d6⟩;have f6:=Qa (b0.out.trans (d6.mono b0.out.size));clear d6 I2;go_wp2_with fail;go_ret;exact⟨rfl,f6.out⟩
theorem xD (hd:d.digits.size<=6000+1)(hn:jS d):Tx (.mk 3 false es d [] [])/\Sz (.mk 3 false es d [] []):=⟨.num d (ox hn),.mk _ _ _ _ _ _ (by decide) (by omega) (by simp) (by simp)⟩
theorem Iu {b:Nat}(hb:b<=9223372036854775807)(g:Ok True (sY b) j):JB j:=by
 induction g with
 |null=>exact .mk _ _ _ _ _ _ (by decide) gD (by simp) (by simp)
 |bool b=>exact .mk _ _ _ _ _ _ (by decide) gD (by simp) (by simp)
 |num d hd hn=>exact(xD hd hn).1.jb (xD hd hn).2
 |text s hs=>exact .mk _ _ _ _ _ _ (by unfold sY at hs;omega) gD (by simp) (by simp)
 |hole e=>exact .mk _ _ _ _ _ _ (by decide) gD (by simp) (by simp)
 |list ks _ ih=>exact .mk _ _ _ _ _ _ (by decide) gD (by simp) ih
 |obj ns ks h1 h2 h3 _ ih=>exact .mk _ _ _ _ _ _ (by decide) gD (fun s hs=>by have:=(h2 s hs).2;omega) ih
theorem IT {T:ByteArray->Prop}(g:Ok True T j):Vl j:=by
 induction g with
 |null=>exact .null
 |bool b=>exact .bool b
 |num d hd hn=>exact(xD hd hn).1.vl
 |text s hs=>exact .text s
 |hole e=>exact .hole
 |list ks _ ih=>exact .list ks ih
 |obj ns ks h1 h2 h3 _ ih=>exact .obj ns ks h1 ih
def J1 (o:Option JV):Prop:= ∀j,o=some j->JB j/\Vl j
theorem OT.ok {o:Option JV}(h:OT w v o):J1 o:=fun j e=>by
 subst e;exact⟨Iu (by decide) h.2.1,IT h.2.1⟩
def J3 (w:World)(o:Option JV)(e:Ending)(w':World):Prop:= ∃u,e =.returned u/\Below w.heap.size w w'/\OV (w.heap.size<= ·) w' u o
theorem vU {o:Option JV}(h:OT w v o):Calls Tryz.prog 8 #[v] w (J3 w o):=by
 cases o with
 |some j=>exact(CY h.1 (by have:=h.2.2;omega) h.2.1).mono fun e w' ⟨u,he,hb,hv⟩=>⟨u,he,hb,hv⟩
 |none=>
  obtain⟨A,q,rfl⟩:=h;go_enter Tryz.func8,Tryz.ntmps8;go_wp2_with fail;go_ret;exact⟨_,rfl,Zd _ _,rfl⟩
theorem zX (a b:Option JV):iU b a = - iU a b:=lS _ _
theorem Ac (a:Option JV):iU a a=0:=fD _
theorem EE (a b:Option JV): -1<=iU a b/\iU a b<=1:=zE _ _
theorem ld {ta tb ua uh ub:Value}{bs bs':List Int}(hL:yj w)(a1:Bs w ta xs)(a2:Sl w th (hs.map iV))(a3:Sl w tb (bs.map iV))(a4:∀z∈hs,-9223372036854775808<=z/\z<=9223372036854775807)(a5:∀z∈bs,-9223372036854775808<=z/\z<=9223372036854775807)
  (b1:Bs w ua ys) (b2:Sl w uh (hs'.map iV)) (b3:Sl w ub (bs'.map iV)) (b4:∀z∈hs',-9223372036854775808<=z/\z<=9223372036854775807) (b5:∀z∈bs',-9223372036854775808<=z/\z<=9223372036854775807) :
  Calls Tryz.prog 3 #[.agg #[ta,th,tb],.agg #[ua,uh,ub]] w (JE w):=by
 have e7:=Qa (fun w1 (hb:Below w.heap.size w w1)=>D8 (a1.below hb) (a2.below hb) (a3.below hb) a4 a5);have f9:=Qa (fun w1 (hb:Below w.heap.size w w1)=>D8 (b1.below hb) (b2.below hb) (b3.below hb) b4 b5);obtain⟨-,A1,c1,rfl,-⟩:=a1;obtain⟨-,A2,c2,rfl,-⟩:=a2;obtain⟨-,A3,c3,rfl,-⟩:=a3;obtain⟨-,B1,d1,rfl,-⟩:=b1;obtain⟨-,B2,d2,rfl,-⟩:=b2;obtain⟨-,B3,d3,rfl,-⟩:=b3;obtain⟨b8,e6,Ha,-⟩:=fB w (.cells #[.slice A1 xs.length c1,.slice A2 (hs.map iV).length c2,.slice A3 (bs.map iV).length c3] 25) (.cells #[.slice B1 ys.length d1,.slice B2 (hs'.map iV).length d2,.slice B3 (bs'.map iV).length d3] 25);have HL:=Qa hL;clear hL a4 a5 b4 b5;generalize (hs.map iV).length=n1 at *;generalize (bs.map iV).length=n2 at *;generalize (hs'.map iV).length=m1 at *;generalize (bs'.map iV).length=m2 at *;go_enter Tryz.func3,Tryz.ntmps3;go_wp2_with fail;obtain⟨w0,g4⟩:∃w0,(w.alloc (.cells #[.slice A1 xs.length c1,.slice A2 n1 c2,.slice A3 n2 c3] 25)).alloc (.cells #[.slice B1 ys.length d1,.slice B2 m1 d2,.slice B3 m2 d3] 25)=w0:=⟨_,rfl⟩;rw[g4] at b8 e6 Ha ⊢;clear g4;(with_reducible refine(Ay (HL.out.below Ha.out)).mono ?_);rintro e w1 ⟨rfl,a9⟩;have k0:=aa (aj b8.out a9) (j:=0) (u:=.slice A1 xs.length c1) rfl;have k1:=aa (aj b8.out a9) (j:=1) (u:=.slice A2 n1 c2) rfl;have k2:=aa (aj b8.out a9) (j:=2) (u:=.slice A3 n2 c3) rfl;have a0:=Qa (aj e6.out a9);have d6:=Qa (Ha.out.trans (a9.mono Ha.out.size));have c4:=Qa (e7.out w1 d6.out);clear a9 e7 b8 e6 Ha;go_wp2_with fail;(with_reducible refine c4.out.mono ?_);rintro e w2 ⟨Aa,na,qa,oka,rfl,c6,f8⟩;have k0:=aa (aj a0.out c6) (j:=0) (u:=.slice B1 ys.length d1) rfl;have k1:=aa (aj a0.out c6) (j:=1) (u:=.slice B2 m1 d2) rfl;have k2:=aa (aj a0.out c6) (j:=2) (u:=.slice B3 m2 d3) rfl;have c9:=Qa (d6.out.trans (c6.mono d6.out.size));have g2:=Qa f8;have b6:=Qa (f9.out w2 c9.out);clear c6 f8 f9 c4 d6 a0;go_wp2_with fail;(with_reducible refine b6.out.mono ?_);rintro e w3 ⟨Ab,nb,qb,okb,rfl,e1,f3⟩;have c5:=Qa (c9.out.trans (e1.mono c9.out.size));have b7:=Qa e1;have f5:=Qa f3;clear e1 f3 b6 c9 k0 k1 k2
 cases oka with
 |false=>
  go_wp2_with fail;go_ret;exact⟨rfl,c5.out⟩
 |true=>
 cases okb with
 |false=>
  go_wp2_with fail;go_ret;exact⟨rfl,c5.out⟩
 |true=>
 obtain⟨o1,b0⟩:=g2.out rfl;obtain⟨o2,c8⟩:=f5.out rfl;have b0:=b0.below b7.out;have k1:=b0.ok;have k2:=c8.ok;have f4:=Qa (vU b0);have g5:=Qa (fun w4 (hb:Below w3.heap.size w3 w4)=>vU (c8.below hb));have HR:=Qa (fun w4 (hb:Below w3.heap.size w3 w4)=>oh (b0.below hb) (c8.below hb));have Hk:=Qa (And.intro k1 k2);clear b0 c8 k1 k2 g2 f5 b7;go_wp2_with fail;(with_reducible refine f4.out.mono ?_);rintro e w4 ⟨v,rfl,e3,hv⟩;have b9:=Qa (g5.out w4 e3);have Hv:=Qa hv;have a7:=Qa e3;clear e3 hv f4 g5;go_wp2_with fail;(with_reducible refine b9.out.mono ?_);rintro e w5 ⟨u,rfl,e2,hu⟩;have c7:=Hv.out.later e2;have a6:=Qa (a7.out.trans (e2.mono a7.out.size));have g3:=Qa (HR.out w5 a6.out);have e4:=Qa (c5.out.trans (a6.out.mono c5.out.size));obtain⟨⟨aU,aE,hE⟩,hM,hP,-⟩:=HL.out.below e4.out;have HC:=Qa (fun w' (hb:Below w5.heap.size w5 w')=>dG (c7.later hb) (hu.later hb) (hP.below hb) (hE.glob.below hb) (fun j e=>(Hk.out.1 j e).1) (fun j e=>(Hk.out.2 j e).1));have HD:=Qa (fun w' (hb:Below w5.heap.size w5 w')=>dG (hu.later hb) (c7.later hb) (hP.below hb) (hE.glob.below hb) (fun j e=>(Hk.out.2 j e).1) (fun j e=>(Hk.out.1 j e).1));have HE:=Qa (fun w' (hb:Below w5.heap.size w5 w')=>dG (c7.later hb) (c7.later hb) (hP.below hb) (hE.glob.below hb) (fun j e=>(Hk.out.1 j e).1) (fun j e=>(Hk.out.1 j e).1));have HF:=Qa (fun w' (hb:Below w5.heap.size w5 w')=>dG (hu.later hb) (hu.later hb) (hP.below hb) (hE.glob.below hb) (fun j e=>(Hk.out.2 j e).1) (fun j e=>(Hk.out.2 j e).1));rw[Ac] at HE HF;rw[zX o1 o2] at HD;have g8:=EE o1 o2;generalize iU o1 o2=z at *;have g7:IntKind.i64.wrap (-z) = -z:=IntWalk.i64_in _ (by omega);have g6:(z==z)=true:=by simp
 clear c7 hu hE hM hP e2 HR b9 Hv a7 a6 c5;go_wp2_with fail;(with_reducible refine g3.out.mono ?_);rintro e w6 ⟨rfl,d9⟩;have g1:=Qa (HC.out w6 d9);have e0:=Qa d9;clear d9 HC g3;go_wp2_with fail;(with_reducible refine g1.out.mono ?_);rintro e w7 ⟨rfl,f2⟩;have d0:=Qa (e0.out.trans (f2.mono e0.out.size));have f0:=Qa (HD.out w7 d0.out);clear f2 g1 HD e0;go_wp2_with fail;(with_reducible refine f0.out.mono ?_);rintro e w8 ⟨rfl,e8⟩;have d5:=Qa (d0.out.trans (e8.mono d0.out.size));have f6:=Qa (HE.out w8 d5.out);clear e8 f0 HE d0;go_wp2_with fail;(with_reducible refine f6.out.mono ?_);rintro e w9 ⟨rfl,f1⟩;have d4:=Qa (d5.out.trans (f1.mono d5.out.size));have g0:=Qa (HF.out w9 d4.out);clear f1 f6 HF d5;go_wp2_with fail;(with_reducible refine g0.out.mono ?_);rintro e w10 ⟨rfl,c0⟩;have e5:=Qa (d4.out.trans (c0.mono d4.out.size));clear c0 g0 d4;go_wp2_with fail;go_ret;exact⟨rfl,e4.out.trans (e5.out.mono e4.out.size)⟩
