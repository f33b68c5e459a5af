import Derived.Test.YtgkkffeagolnpaaGreatDoorGZ16bd
set_option linter.unusedVariables false
set_option linter.unusedSimpArgs false
set_option maxHeartbeats 64000000
set_option maxRecDepth 100000
namespace Go.Proofs.YtgkkffeagolnpaaGreatDoor
open Go.RowKit Go.Shelf
variable {cs:Array Value}{j:JV}{B L base c g gr gt n:Nat}{F P:Nat->Prop}{A:Option Addr}{T:TypeId->Prop}{v x:Value}{w w' w2 w5:World}
theorem CZ:da 126 138 .nilIface 1 16:=⟨Tryz.underlying126,by kernel_rfl,rfl,by decide⟩
abbrev D4 (g:Nat):Value:=.iface 129 (.pointer (some ⟨g,0,none⟩))
abbrev Eb (g:Nat):Value:=.iface 133 (.pointer (some ⟨g,0,none⟩))
def cI (m:Nat×Value):List Nat:=m.1::m.2.ownBlock.toList
inductive ku (P:Nat->Prop) (B:Nat) (w:World):Value->Fr->Nat×Value->Prop
 |row (g:Nat) (A:Option Addr) (c:Nat) (us:List Value) (its:List JV):B<=g->w.heap[g]?=some (.cells #[.slice A us.length c] 132 (0,0))->w.ownsRow B 80 1 (.slice A us.length c) us.length us->ch (VW P w) us its->ku P B w (D4 g) ⟨false,its, [],none⟩ (g,.slice A us.length c)
 |table (g:Nat) (A:Option Addr) (c:Nat) (L:List (ByteArray×Value)) (ms:List (ByteArray×JV)) (s:ByteArray) (nm:Option ByteArray):B<=g->w.heap[g]?=some (.cells #[.slice A L.length c,.string s,.bool nm.isSome] 135 (0,0))->vm w B (.slice A L.length c) L->L.map Prod.fst=ms.map Prod.fst->ch (VW P w) (L.map Prod.snd) (ms.map Prod.snd)->(∀t,nm=some t->s=t)->ku P B w (Eb g) ⟨true, [],ms,nm⟩ (g,.slice A L.length c)
def TX (e:TypeId):Prop:=TV e\/e=132\/e=135
theorem eu:¬TX 128:=by rintro((h|h|h|h)|h|h) <;> exact absurd h (by decide)
theorem wM:¬TX 138:=by rintro((h|h|h|h)|h|h) <;> exact absurd h (by decide)
def TW (e:TypeId):Prop:=TX e\/e=128\/e=138
structure rv (B:Nat) (w w':World):Prop where
 b:Below B w w'
 keep:bL TW w w'
theorem rv.trans {a b c:World}(h:rv B a b)(k:rv B b c):rv B a c:=⟨h.b.trans k.b,h.keep.trans k.keep⟩
theorem rv.new (h:Below w.heap.size w w')(hB:B<=w.heap.size):rv B w w':=⟨h.mono hB,bL.of_below TW h⟩
theorem rv.chg (h:aP F w w')(hB:B<=w.heap.size)(hF:∀k,F k->B<=k/\∃cs e z,w.heap[k]?=some (.cells cs e z)/\TW e):rv B w w':=
 ⟨h.below hB fun i hi=>(hF i hi).1,(Kp.of_chg h fun g hg _=>(hF g hg).2).keeps⟩
def Mw (top:List Nat)(w w':World):Prop:=w.heap.size<=w'.heap.size/\∀ (g:Nat) (cs:Array Value) (e:TypeId) (z:Nat×Nat),w.heap[g]?=some (.cells cs e z)->TX e->g∉top->w'.heap[g]?=some (.cells cs e z)
section
variable {Q:Nat->Array Value->Prop}{B g c:Nat}{w w':World}{bs bs' top:List Nat}{A:Option Addr}{dv u:Value}{f f':Fr}{fs frs:List Fr}{done:Option JV}{m m':Nat×Value}{us:List (Value×Nat×Value)}
theorem Mw.mv (h:Mw top w w'):Mv top w w':=⟨h.1,fun g cs e z hg he ht=>h.2 g cs e z hg (.inl he) ht⟩
theorem Mw.of_below (h:Below w.heap.size w w'):Mw top w w':=⟨h.size,fun g cs e z hg _ _=>(h.block g (ak hg)).trans hg⟩
theorem Mw.of_kp (h:Kp T w w')(hT:∀e,TX e->¬T e):Mw top w w':=⟨h.1,fun g cs e z hg he _=>h.heap hg (hT e he)⟩
theorem Mw.of_chg (h:aP F w w')(hF:∀g,F g->g<w.heap.size->g∈top\/∃cs e z,w.heap[g]?=some (.cells cs e z)/\¬TX e):Mw top w w':=by
 refine⟨h.size,fun g cs e z hg he ht=>(h.block g (ak hg) fun hf=>?_).trans hg⟩;rcases hF g hf (ak hg) with h1|⟨cs',e',z',h1,h2⟩
 ·exact ht h1
 ·rw[h1] at hg;injection hg with hg
  injection hg with _ hg _
  subst hg;exact h2 he
theorem ku.typed (h:ku P B w u f m){k:Nat}(hk:k∈cI m):B<=k/\∃cs e z,w.heap[k]?=some (.cells cs e z)/\TX e:=by
 cases h with
 |row g A c us its h1 h2 h3 h4=>
  simp only[cI,List.mem_cons,Option.mem_toList] at hk;rcases hk with rfl|hk
  ·exact⟨h1,_,_,_,h2,.inr (.inl rfl)⟩
  ·obtain⟨q1,cur,q2⟩:=ao h3 hk;exact⟨q1,_,_,_,q2,.inl (.inr (.inr (.inl rfl)))⟩
 |table g A c L ms s nm h1 h2 h3 h4 h5 h6=>
  simp only[cI,List.mem_cons,Option.mem_toList] at hk;rcases hk with rfl|hk
  ·exact⟨h1,_,_,_,h2,.inr (.inr rfl)⟩
  ·obtain⟨q1,cur,q2⟩:=ao h3 hk;exact⟨q1,_,_,_,q2,.inl (.inr (.inr (.inr rfl)))⟩
theorem ku.move (h:ku (Pb B bs) B w u f m)(hm:Mw top w w')(ht:∀g∈top,g∈bs)(a0:∀g∈bs',g∈bs\/w.heap.size<=g)(hu:∀g∈cI m,g∉top):ku (Pb B bs') B w' u f m:=by
 cases h with
 |row g A c us its h1 h2 h3 h4=>exact .row g A c us its h1 (hm.2 g _ _ _ h2 (.inr (.inl rfl)) (hu g (by simp[cI]))) (jF h3 hm.mv (.inr (.inr (.inl rfl))) fun b hb=>hu b (by simp[cI,hb])) (h4.mono fun _ _ h=>h.move hm.mv ht a0)
 |table g A c L ms s nm h1 h2 h3 h4 h5 h6=>exact .table g A c L ms s nm h1 (hm.2 g _ _ _ h2 (.inr (.inr rfl)) (hu g (by simp[cI]))) (jF h3 hm.mv (.inr (.inr (.inr rfl))) fun b hb=>hu b (by simp[cI,hb])) h4 (h5.mono fun _ _ h=>h.move hm.mv ht a0) h6
structure iI (B:Nat) (Q:Nat->Array Value->Prop) (w:World) (g:Nat) (frs:List Fr) (done:Option JV) (A:Option Addr) (c:Nat) (dv:Value) (us:List (Value×Nat×Value)) (bs:List Nat):Prop where
 row:w.heap[g]?=some (.cells #[.slice A us.length c,dv] 128 (0,0))
 low:B<=g
 own:w.ownsRow B 138 1 (.slice A us.length c) us.length (us.map Prod.fst).reverse
 frames:ch (fun u f=>ku (Pb B bs) B w u.1 f u.2) us frs
 blocks:us.flatMap (fun u=>cI u.2)=bs
 nodup:bs.Nodup
 done:m7 (Pb B bs) w dv done
 lone:∀k cs,Q k cs->k∉bs/\w.heap[k]?=some (.cells cs 82 (0,0))
def lm (B:Nat)(Q:Nat->Array Value->Prop)(w:World)(g:Nat)(frs:List Fr)(done:Option JV)(bs:List Nat):Prop:= ∃A c dv us,iI B Q w g frs done A c dv us bs
theorem iI.typed (h:iI B Q w g frs done A c dv us bs){k:Nat}(hk:k∈bs):B<=k/\∃cs e z,w.heap[k]?=some (.cells cs e z)/\TX e:=by
 rw[<-h.blocks] at hk;obtain⟨x,hx,a0⟩:=List.mem_flatMap.1 hk;obtain⟨i,hi,rfl⟩:=List.getElem_of_mem hx;have hl:=h.frames.1;exact(h.frames.2 i us[i] (frs[i]'(by omega)) (Zd hi) (Zd _)).typed a0
theorem iI.lt (h:iI B Q w g frs done A c dv us bs):∀k∈bs,k<w.heap.size:=fun k hk=>by obtain⟨_,cs,e,z,h1,_⟩:=h.typed hk;exact ak h1
theorem lm.lt (h:lm B Q w g frs done bs):∀k∈bs,k<w.heap.size:=by obtain⟨_,_,_,_,h⟩:=h;exact h.lt
theorem iI.apart (h:iI B Q w g frs done A c dv us bs):g∉bs/\∀b,(Value.slice A us.length c).ownBlock=some b->b∉bs/\b≠g:=by
 refine⟨fun hk=>?_,fun b hb=>⟨fun hk=>?_,fun e=>?_⟩⟩
 ·obtain⟨_,cs,e,z,h1,h2⟩:=h.typed hk;rw[h.row] at h1;injection h1 with h1
  injection h1 with _ h1 _
  exact eu (h1▸h2)
 ·obtain⟨_,cs,e,z,h1,h2⟩:=h.typed hk;obtain⟨_,cur,h3⟩:=ao h.own hb;rw[h3] at h1;injection h1 with h1
  injection h1 with _ h1 _
  exact wM (h1▸h2)
 ·obtain⟨_,cur,h3⟩:=ao h.own hb;rw[e,h.row] at h3;injection h3 with h3
  injection h3 with _ h3 _
  exact absurd h3 (by decide)
theorem iI.move (h:iI B Q w g frs done A c dv us bs)(hm:Mw [] w w')(hg:w'.heap[g]?=w.heap[g]?)(ho:∀b,(Value.slice A us.length c).ownBlock=some b->w'.heap[b]?=w.heap[b]?):iI B Q w' g frs done A c dv us bs:=
 have a0:∀k∈bs,k∈bs\/w.heap.size<=k:=fun k hk=>.inl hk
 ⟨hg.trans h.row,h.low,bh h.own ho,h.frames.mono fun _ _ h=>h.move hm (by simp) a0 (by simp),h.blocks,h.nodup,h.done.move hm.mv (by simp) a0,fun k cs hq=>⟨(h.lone k cs hq).1,hm.2 k _ _ _ (h.lone k cs hq).2 (.inl (.inr (.inr (.inr rfl)))) (by simp)⟩⟩
theorem iI.below (h:iI B Q w g frs done A c dv us bs)(hb:Below w.heap.size w w'):iI B Q w' g frs done A c dv us bs:=
 h.move (Mw.of_below hb) (hb.block g (ak h.row)) fun b a0=>by obtain⟨_,cur,h3⟩:=ao h.own a0;exact hb.block b (ak h3)
theorem lm.below (h:lm B Q w g frs done bs)(hb:Below w.heap.size w w'):lm B Q w' g frs done bs:=by obtain⟨A,c,dv,us,h⟩:=h;exact⟨A,c,dv,us,h.below hb⟩
theorem iI.empty (h:iI B Q w g [] done A c dv us bs):us = []/\bs = []:=by
 have:=h.frames.1;obtain rfl:=List.eq_nil_of_length_eq_zero (show us.length=0 by simpa using this);exact⟨rfl,h.blocks.symm⟩
theorem iI.innermost (h:iI B Q w g (f::fs) done A c dv us bs):∃u m us',us= (u,m)::us'/\ku (Pb B bs) B w u f m/\us'.length=fs.length:=by
 cases us with
 |nil=>have:=h.frames.1;simp at this
 |cons x us=>exact⟨x.1,x.2,us,rfl,h.frames.2 0 _ _ rfl rfl,by have:=h.frames.1;simpa using this⟩
theorem iI.swap (h:iI B Q w g (f::fs) done A c dv ((u,m)::us) bs)(hc:aP F w w')(hF:∀k,F k->k∈cI m)
  (hn:∀k∈cI m',k∈cI m\/w.heap.size<=k) (a4:(cI m').Nodup)
  (hw:∀bs',Mw (cI m) w w'->(∀k∈bs',k∈bs\/w.heap.size<=k)->(∀k∈cI m,k∈bs)->ku (Pb B bs') B w' u f' m') :
  ∃bs',iI B Q w' g (f'::fs) done A c dv ((u,m')::us) bs':=by
 obtain⟨ap1,ap2⟩:=h.apart;have a0:∀k∈cI m,k∈bs:=fun k hk=>by rw[<-h.blocks];exact List.mem_append_left _ hk
 have hm:Mw (cI m) w w':=Mw.of_chg hc fun k hk _=>.inl (hF k hk)
 have a2:∀k∈cI m'++us.flatMap (fun u=>cI u.2),k∈bs\/w.heap.size<=k:=fun k hk=>by
  rcases List.mem_append.1 hk with hk|hk
  ·exact(hn k hk).imp (a0 k) id
  ·exact .inl (by rw[<-h.blocks];exact List.mem_append_right _ hk)
 have a1:=h.nodup;rw[<-h.blocks,List.flatMap_cons,List.nodup_append] at a1;obtain⟨n1,n2,n3⟩:=a1;refine⟨cI m'++us.flatMap (fun u=>cI u.2),(hc.block g (ak h.row) fun hf=>ap1 (a0 g (hF g hf))).trans h.row,h.low,bh h.own fun b hb=>?_,⟨by simpa using h.frames.1,fun i a b h1 h2=>?_⟩,rfl,?_,h.done.move hm.mv a0 a2,fun k cs hq=>⟨fun hk=>?_,hm.2 k _ _ _ (h.lone k cs hq).2 (.inl (.inr (.inr (.inr rfl)))) (fun hk=>(h.lone k cs hq).1 (a0 k hk))⟩⟩
 rotate_right
 ·rcases a2 k hk with hk|hk
  ·exact(h.lone k cs hq).1 hk
  ·have:=ak (h.lone k cs hq).2;omega
 ·obtain⟨_,cur,h3⟩:=ao h.own hb;exact hc.block b (ak h3) fun hf=>(ap2 b hb).1 (a0 b (hF b hf))
 ·cases i with
  |zero=>
   simp only[List.getElem?_cons_zero,Option.some.injEq] at h1 h2;subst h1 h2;exact hw _ hm a2 a0
  |succ i=>
   have a3:us[i]?=some a:=by simpa using h1
   have:=h.frames.2 (i+1) a b (by simpa using h1) (by simpa using h2);exact this.move hm a0 a2 fun k hk a5=>n3 k a5 k (List.mem_flatMap.2 ⟨a,Zk a3,hk⟩) rfl
 ·rw[List.nodup_append];refine⟨a4,n2,fun a ha b hb e=>?_⟩;subst e;rcases hn a ha with h1|h1
  ·exact n3 a h1 a hb rfl
  ·have:=h.lt a (by rw[<-h.blocks];exact List.mem_append_right _ hb);omega
theorem iI.pop (h:iI B Q w g (f::fs) done A c dv ((u,m)::us) bs):iI B Q (w.setCell ⟨g,0,none⟩ (.slice A us.length c)) g fs done A c dv us (us.flatMap fun u=>cI u.2):=by
 obtain⟨ap1,ap2⟩:=h.apart;have hc:=aP.set (w:=w) g 0 (.slice A us.length c);have hm:Mw [] w (w.setCell ⟨g,0,none⟩ (.slice A us.length c)):=Mw.of_chg hc fun k hk _=>.inr (by subst hk;exact⟨_,_,_,h.row,eu⟩)
 have a1:∀k∈us.flatMap (fun u=>cI u.2),k∈bs\/w.heap.size<=k:=fun k hk=>.inl (by rw[<-h.blocks];exact List.mem_append_right _ hk)
 have a0:=h.nodup;rw[<-h.blocks,List.flatMap_cons,List.nodup_append] at a0;have ho:=h.own;rw[List.map_cons,List.reverse_cons,List.length_cons] at ho;refine⟨ar h.row 0 _,h.low,bh (jr ho (by simp)) fun b hb=>?_,⟨by simpa using h.frames.1,fun i a b h1 h2=>?_⟩,rfl,a0.2.1,h.done.move hm.mv (by simp) a1,fun k cs hq=>⟨fun hk=>?_,hm.2 k _ _ _ (h.lone k cs hq).2 (.inl (.inr (.inr (.inr rfl)))) (by simp)⟩⟩
 rotate_right
 ·rcases a1 k hk with hk|hk
  ·exact(h.lone k cs hq).1 hk
  ·have:=ak (h.lone k cs hq).2;omega
 ·have a2:(Value.slice A (us.length+1) c).ownBlock=some b:=by
   cases A with
   |none=>simp[Value.ownBlock] at hb
   |some a=>simpa [Value.ownBlock] using hb
  obtain⟨_,cur,h3⟩:=ao ho a2;exact hc.block b (ak h3) (ap2 b a2).2
 ·exact(h.frames.2 (i+1) a b (by simpa using h1) (by simpa using h2)).move hm (by simp) a1 (by simp)
theorem lm.sub {Q':Nat->Array Value->Prop}(h:lm B Q w g frs done bs)(hq:∀k cs,Q' k cs->Q k cs):lm B Q' w g frs done bs:=by
 obtain⟨A,c,dv,us,h⟩:=h;exact⟨A,c,dv,us,h.row,h.low,h.own,h.frames,h.blocks,h.nodup,h.done,fun k cs k2=>h.lone k cs (hq k cs k2)⟩
theorem lm.add (h:lm B Q w g frs done bs)(hb:Below w.heap.size w w')(hL:w.heap.size<=L)(hr:w'.heap[L]?=some (.cells cs 82 (0,0))):lm B (fun k c=>Q k c\/(k=L/\c=cs)) w' g frs done bs:=by
 have hlt:=h.lt;obtain⟨A,c,dv,us,h'⟩:=h.below hb;refine⟨A,c,dv,us,h'.row,h'.low,h'.own,h'.frames,h'.blocks,h'.nodup,h'.done,fun k cs' hk=>?_⟩;rcases hk with hk|⟨rfl,rfl⟩
 ·exact h'.lone k cs' hk
 ·exact⟨fun hk=>by have:=hlt _ hk;omega,hr⟩
theorem lm.lone (h:lm B Q w g frs done bs)(hq:Q L cs):w.heap[L]?=some (.cells cs 82 (0,0)):=by
 obtain⟨A,c,dv,us,h⟩:=h;exact(h.lone L cs hq).2
def Bh:Nat->Array Value->Prop:=fun _ _=>False
end
def rK (w:World)(base g:Nat)(A:Option Addr)(c n:Nat)(s:ByteArray)(xs:List Value)(v:Value)(w':World):Prop:= ∃A' q,w'.heap[g]?=some (.cells #[.slice A' (n+1) q,.string s,.bool false] 135 (0,0))/\w'.ownsRow base 82 2 (.slice A' (n+1) q) (n+1) (xs ++ [.string s,v])/\aP (fun k=>k=g\/(Value.slice A n c).ownBlock=some k) w w'/\((Value.slice A' (n+1) q).ownBlock= (Value.slice A n c).ownBlock\/∃b,(Value.slice A' (n+1) q).ownBlock=some b/\w.heap.size<=b)
theorem oY {xs:List Value}{s:ByteArray}{b:Bool}{t:TypeId}(h:w.heap[g]?=some (.cells #[.slice A n c,.string s,.bool b] 135 (0,0)))(ho:w.ownsRow base 82 2 (.slice A n c) n xs)(hb:base<=w.heap.size)(hl:n<=1000000000) :
  Calls Tryz.prog 303 #[.pointer (some ⟨g,0,none⟩),.iface t x] w fun e w'=>e =.returned (.tuple #[])/\rK w base g A c n s xs (.iface t x) w':=by
 obtain⟨wr,a2⟩:∃wr,w.drew=wr:=⟨_,rfl⟩;have a3:Below w.heap.size w wr:=by rw[<-a2];exact(Ze _ _).drew
 have b1:wr.heap.size=w.heap.size:=by rw[<-a2];rfl
 have hr:=ah h a3;have K0:=Qa (ac hr (j:=0) (u:=.slice A n c) rfl);have K1:=Qa (ac hr (j:=1) (u:=.string s) rfl);have a1:=Qa (aa wr (.cells #[.string s,.iface t x] 82));have a9:=Qa (ai (ai ho a3 (Zb _)) a1.out (Zb _));have b5:=Qa (av wr [.string s,.iface t x] 82);have b0:=Qa (ah hr a1.out);have b9:=Qa (aL a9.out b0.out (by decide));have c0:=Qa a3;have a5:=Qa b1;have Hb:=Qa hb;clear h ho hr a3 b1 hb;go_enter Tryz.func303,Tryz.ntmps303;go_wp2_with fail;refine cC (fun w'=>w'.cell? ⟨g,0,none⟩=some (.slice A n c)/\w'.cell? ⟨g,1,none⟩=some (.string s)) 15 ((by rw[a2];exact⟨K0.out,K1.out⟩)) fun a0=>?_
 rw[a2] at a0 ⊢;clear a2;refine tZ 0 a0 ?_;refine tZ 1 a0 ?_;refine tZ 2 a0 ?_;refine tZ 3 a0 ?_;refine tZ 4 a0 ?_;refine tZ 5 a0 ?_
 try simp only[Act.put,jP,jQ,jR]
 refine tZ 6 a0 ?_;refine tZ 7 a0 ?_;refine tZ 8 a0 ?_;refine tZ 9 a0 ?_;refine tZ 10 a0 ?_
 try simp only[Act.put,jP,jQ,jR]
 refine rZ 11 fun K hK=>?_
 go_simp;refine hK.out _ _ (fun _=>⟨Zg a1.out a0.1,Zg a1.out a0.2⟩) (fun a0=>?_);clear hK K;have a0:=a0 (by decide)
 try simp only[Act.put,jP,jQ,jR]
 refine rZ 12 fun K hK=>?_
 refine xV Cu a9.out b5.out (by have:=a5.out;have:=a1.out.size;have:=Hb.out;omega) ?_;intro v' w5 p1 p2 p3;obtain⟨A5,q5,rfl,-,-,-⟩:=ag p1;have g5:=ay b0.out p2 b9.out;have f5:=al g5 0;have G5:=Qa g5;have HK:=Qa p1;have HG:=Qa p2;have HD:=Qa p3;have k5:=ac g5 (j:=0) (u:=.slice A n c) rfl;have k53:=ac g5 (j:=1) (u:=.string s) rfl;clear p1 p2 p3 g5;refine hK.out _ _ (fun _=>⟨k5,k53⟩) (fun a0=>?_);clear hK K;have a0:=a0 (by decide)
 try simp only[Act.put,jP,jQ,jR]
 refine rZ 13 fun K hK=>?_
 go_simp;refine hK.out _ _ (fun _=>a0) (fun a0=>?_);clear hK K;have a0:=a0 (by decide)
 try simp only[Act.put,jP,jQ,jR]
 refine tZ 14 a0 ?_
 try simp only[Act.put,jP,jQ,jR]
 refine rZ 15 fun K hK=>?_
 go_simp;refine hK.out _ _ (fun h=>absurd rfl h) (fun _=>?_);clear hK K
 try simp only[Act.put,jP,jQ,jR]
 refine aK (by kernel_rfl) (NoPanic.normal ?_) _;clear a0 f5;have g6:=ar G5.out 0 (.slice A5 (n+1) q5);have f6:=al g6 2;have k6:=ac g6 (j:=2) (u:=.bool b) rfl;have a4:=aP.set (w:=w5) g 0 (.slice A5 (n+1) q5);obtain⟨w6,b3⟩:∃w6,w5.setCell ⟨g,0,none⟩ (.slice A5 (n+1) q5)=w6:=⟨_,rfl⟩;rw[b3] at g6 f6 k6 a4 ⊢;have b4:=Qa a4;have G6:=Qa g6;clear g6 b3 a4;go_wp2_with fail;go_end0;have hne:=aL HK.out G5.out (by decide);have b8:aP (fun k=>k=g\/(Value.slice A n c).ownBlock=some k) w (w6.setCell ⟨g,2,none⟩ (.bool false)):=
  (((aP.of_below (c0.out.trans (a1.out.mono (by have:=a5.out;omega)))).trans (aP.grown HG.out) (fun i h=>.inl (.inr h))).trans b4.out (fun i h=>.inl (.inl h))).trans (aP.set g 2 _) (fun i h=>.inl (.inl h))
 refine⟨rfl,A5,q5,ar G6.out 2 _,bh HK.out fun b hb=>?_,b8,?_⟩
 ·have b2:b≠g:=fun e=>hne (by rw[hb,e])
  exact(Below.heap_setCell w6 ⟨g,2,none⟩ _ b b2).trans (b4.out.block b (ak (ao HK.out hb).2.choose_spec) b2)
 ·rcases HD.out with h|h
  ·exact .inl h
  ·exact .inr ⟨_,h,by have:=a1.out.size;have:=a5.out;omega⟩
theorem nk {xs:List Value}{s:ByteArray}{b:Bool}{t:TypeId}(HI:Calls Tryz.prog 66 #[.pointer (some ⟨g,0,none⟩)] w fun e w'=>e =.returned (.iface 133 (.pointer (some ⟨gt,0,none⟩)))/\∃m,w'=w.drewN m)
  (h:w.heap[gt]?=some (.cells #[.slice A n c,.string s,.bool b] 135 (0,0))) (ho:w.ownsRow base 82 2 (.slice A n c) n xs) (hb:base<=w.heap.size) (hl:n<=1000000000) :
  Calls Tryz.prog 69 #[.pointer (some ⟨g,0,none⟩),.iface t x] w fun e w'=>e =.returned (.tuple #[])/\∃m,rK (w.drewN m) base gt A c n s xs (.iface t x) w':=by
 have HA:=Qa (fun m=>oY (w:=w.drewN m) (t:=t) (x:=x) h ho hb hl);clear h ho hb hl;go_enter Tryz.func69,Tryz.ntmps69;go_wp2_with fail;refine HI.mono ?_;rintro e w1 ⟨rfl,m,rfl⟩;have a0:=Qa (HA.out m);go_wp2_with fail;refine Za a0 ?_;rintro e w2 ⟨rfl,hr⟩;go_wp2_with fail;(try simp only[Exit.inBlock,Exit.then]);refine Zh (results_none rfl ..) rfl ?_;exact⟨rfl,m,hr⟩
theorem qh {s:Value}{K:Nat->World->Prop}(h:w.heap[gr]?=some (.cells #[v,s,.bool false] 135 (0,0)))(hv:v.oneCell'=true)
  (H:Calls Tryz.prog 172 #[v] w fun e w'=> ∃gl,e =.returned (.tuple #[.pointer (some ⟨gl,0,none⟩),.nilIface])/\K gl w') :
  Calls Tryz.prog 304 #[.pointer (some ⟨gr,0,none⟩)] w fun e w'=> ∃gl,e =.returned (.tuple #[.iface 95 (.pointer (some ⟨gl,0,none⟩)),.bool true])/\∃w1 m,K gl w1/\w'=w1.drewN m:=by
 have c0:=ac h (j:=0) (u:=v) rfl;have c2:=ac h (j:=2) (u:=.bool false) rfl;have H0:=Qa H;clear h H;go_enter Tryz.func304,Tryz.ntmps304;go_wp2_with fail;refine Za H0 ?_;rintro e w1 ⟨gl,rfl,hk⟩;have Hk:=Qa hk;clear hk;go_wp2_with fail;go_quiet (fail);go_wp2_with fail;go_ret2;exact⟨gl,rfl,w1,_,Hk.out,rfl⟩
section
variable {Q:Nat->Array Value->Prop}{B g c:Nat}{w w':World}{bs:List Nat}{A:Option Addr}{dv u:Value}{f:Fr}{fs frs:List Fr}{done:Option JV}{m:Nat×Value}{us:List (Value×Nat×Value)}
theorem iI.in_top (h:iI B Q w g (f::fs) done A c dv ((u,m)::us) bs)(hl:fs.length<1000000000):Calls Tryz.prog 66 #[.pointer (some ⟨g,0,none⟩)] w fun e w'=>e =.returned u/\∃m,w'=w.drewN m:=by
 have a0:us.length=fs.length:=by simpa using h.frames.1
 rcases ep h.own with ⟨_,e,_⟩|⟨gr,cap,e,h1,h2,h3⟩
 ·simp at e
 ·obtain⟨rfl,-,rfl⟩:=Value.slice.inj e;have hr:=h.row;rw[List.length_cons] at hr;refine AX (n:=us.length) hr (by omega) ?_;rw[World.ownsRow.cellAt h.own us.length (by simp)];rw[List.map_cons,List.reverse_cons,List.getElem?_append_right (by simp)];simp
def wJ (frs:List Fr)(done:Option JV):Bool:=match frs with | []=>done.isNone|f::_=> !f.obj||f.name.isSome
theorem ji (h:lm B Q w g frs done bs)(hl:frs.length<=1000000000):Calls Tryz.prog 65 #[.pointer (some ⟨g,0,none⟩)] w fun e w'=>e =.returned (.bool (wJ frs done))/\Below w.heap.size w w':=by
 obtain⟨A,c,dv,us,h⟩:=h
 cases frs with
 |nil=>
  obtain⟨rfl,rfl⟩:=h.empty;have hr:=h.row
  cases done with
  |none=>rw[show dv =.nilIface from h.done] at hr;exact tg hr
  |some j=>obtain⟨t,x,rfl⟩:=VW.iface h.done;exact re hr
 |cons f fs=>
  obtain⟨u,m,us,rfl,hw,-⟩:=h.innermost;have hin:=(h.in_top (by simp at hl;omega)).mono (R':=fun e w'=>e =.returned u/\Below w.heap.size w w') (by rintro e w' ⟨rfl,k,rfl⟩;exact⟨rfl,ap (Ze _ _) k⟩)
  cases hw with
  |row g' A' c' us' its h1 h2 h3 h4=>exact uq hin
  |table g' A' c' L ms s nm h1 h2 h3 h4 h5 h6=>exact p6 h2 hin
def Kd (B:Nat)(Q:Nat->Array Value->Prop)(g:Nat)(c:bR)(w:World)(e:Ending)(w':World):Prop:=e =.returned (.tuple #[])/\rv B w w'/\∃bs',lm B Q w' g c.frs c.done bs'
def EA (f:Fr):Prop:=f.items.length<=1000000000/\f.mems.length<=1000000000
theorem gW (h:lm B Q w g frs none bs)(ht:wJ frs none=true)(hv:VW (Pb B bs) w v j)(hB:B<=w.heap.size)(hl:frs.length<=1000000000)(hi:∀f∈frs,EA f) :
  Calls Tryz.prog 69 #[.pointer (some ⟨g,0,none⟩),v] w (Kd B Q g (bD frs j) w):=by
 obtain⟨A,c,dv,us,h⟩:=h
 cases frs with
 |nil=>
  obtain⟨rfl,rfl⟩:=h.empty;obtain⟨ap1,ap2⟩:=h.apart;have hr:=h.row;rw[show dv =.nilIface from h.done] at hr;obtain⟨t,x,rfl⟩:=VW.iface hv;refine(o4 hr rfl).mono ?_;rintro e w' ⟨rfl,h1,hc⟩;have hm:Mw [] w w':=Mw.of_chg hc fun k hk _=>.inr (by subst hk;exact⟨_,_,_,h.row,eu⟩)
  refine⟨rfl,.chg hc hB (fun i e=>by subst e;exact⟨h.low,_,_,_,h.row,.inr (.inl rfl)⟩), [],A,c,.iface t x, [],h1,h.low,bh h.own fun b hb=>?_,⟨rfl,fun i a b h=>by simp at h⟩,rfl,List.nodup_nil,?_,fun k cs hq=>⟨(h.lone k cs hq).1,hm.2 k _ _ _ (h.lone k cs hq).2 (.inl (.inr (.inr (.inr rfl)))) (by simp)⟩⟩
  ·obtain⟨_,cur,h3⟩:=ao h.own hb;exact hc.block b (ak h3) (ap2 b hb).2
  ·exact VW.move hv hm.mv (by simp) (fun g hg=>.inl hg)
 |cons f fs=>
  obtain⟨u,m,us,rfl,hw,-⟩:=h.innermost;have hin:=h.in_top (by simp at hl;omega);obtain⟨a5,a4⟩:=hi f (by simp);obtain⟨t,x,rfl⟩:=VW.iface hv;have a2:=fun k (hk:k∈cI m)=>hw.typed hk
  cases hw with
  |row g' A' c' us' its h1 h2 h3 h4=>
   have a9:us'.length=its.length:=h4.1;refine(ss (t:=t) (x:=x) hin h2 h3 hB (by simp only at a5;omega) (fun b hb e=>aL h3 h2 (by decide) (by rw[hb,e]))).mono ?_;rintro e w' ⟨rfl,k,A5,q5,r1,r2,r3,r4⟩;have hc:aP (fun k=>k=g'\/(Value.slice A' us'.length c').ownBlock=some k) w w':=(aP.of_below (ap (Ze _ _) k)).trans r3 (fun i hi=>.inl hi);have hF:∀k,(k=g'\/(Value.slice A' us'.length c').ownBlock=some k)->k∈cI (g',.slice A' us'.length c'):=fun k hk=>by simpa [cI] using hk
   obtain⟨bs',hs⟩:=h.swap (w':=w') (m':=(g',.slice A5 (us'.length+1) q5)) (f':=⟨false,its ++ [j], [],none⟩) hc hF (fun k hk=>by
     simp only[cI,List.mem_cons,Option.mem_toList] at hk ⊢;rcases hk with hk|hk
     ·exact .inl (.inl hk)
     ·rcases r4 with r4|⟨b,r4,r5⟩
      ·exact .inl (.inr (by rw[<-r4];exact hk))
      ·rw[r4] at hk;exact .inr (by rw[<-Zi hk];exact r5)) (by
     have hne:=aL r2 r1 (by decide);refine List.nodup_cons.2 ⟨fun hk=>hne (by simpa using hk),?_⟩
     cases (Value.slice A5 (us'.length+1) q5).ownBlock <;> simp) (fun bs2 hm a1 a0=>by
     have:=ku.row (P:=Pb B bs2) (B:=B) (w:=w') g' A5 q5 (us' ++ [.iface t x]) (its ++ [j]) h1 (by rw[List.length_append];exact r1) (by rw[List.length_append];exact r2) ((h4.mono fun _ _ h=>h.move hm.mv a0 a1).snoc (hv.move hm.mv a0 a1));rw[List.length_append] at this;exact this)
   exact⟨rfl,.chg hc hB (fun i e=>by obtain⟨q1,cs,t,z,q2,q3⟩:=a2 i (hF i e);exact⟨q1,cs,t,z,q2,.inl q3⟩),bs',_,_,_,_,hs⟩
  |table g' A' c' L ms s nm h1 h2 h3 h4 h5 h6=>
   obtain⟨sn,rfl⟩:∃sn,nm=some sn:=Option.isSome_iff_exists.1 (by simpa [wJ] using ht);obtain rfl:=h6 sn rfl;have a9:L.length=ms.length:=by have:=congrArg List.length h4;simpa using this
   refine(nk (t:=t) (x:=x) hin h2 h3 hB (by simp only at a4;omega)).mono ?_;rintro e w' ⟨rfl,k,A5,q5,r1,r2,r3,r4⟩;have hc:aP (fun k=>k=g'\/(Value.slice A' L.length c').ownBlock=some k) w w':=(aP.of_below (ap (Ze _ _) k)).trans r3 (fun i hi=>.inl hi);have hF:∀k,(k=g'\/(Value.slice A' L.length c').ownBlock=some k)->k∈cI (g',.slice A' L.length c'):=fun k hk=>by simpa [cI] using hk
   obtain⟨bs',hs⟩:=h.swap (w':=w') (m':=(g',.slice A5 (L.length+1) q5)) (f':=⟨true, [],ms ++ [(s,j)],none⟩) hc hF (fun k hk=>by
     simp only[cI,List.mem_cons,Option.mem_toList] at hk ⊢;rcases hk with hk|hk
     ·exact .inl (.inl hk)
     ·rcases r4 with r4|⟨b,r4,r5⟩
      ·exact .inl (.inr (by rw[<-r4];exact hk))
      ·rw[r4] at hk;exact .inr (by rw[<-Zi hk];exact r5)) (by
     have hne:=aL r2 r1 (by decide);refine List.nodup_cons.2 ⟨fun hk=>hne (by simpa using hk),?_⟩
     cases (Value.slice A5 (L.length+1) q5).ownBlock <;> simp) (fun bs2 hm a1 a0=>by
     have a3:gn (L ++ [(s,.iface t x)])=gn L ++ [.string s,.iface t x]:=by simp[gn]
     have:=ku.table (P:=Pb B bs2) (B:=B) (w:=w') g' A5 q5 (L ++ [(s,.iface t x)]) (ms ++ [(s,j)]) s none h1 (by rw[List.length_append];exact r1) (by unfold vm;rw[List.length_append,a3];exact r2) (by rw[List.map_append,List.map_append,h4];rfl) (by
      rw[List.map_append,List.map_append];exact(h5.mono fun _ _ h=>h.move hm.mv a0 a1).snoc (hv.move hm.mv a0 a1)) (fun t e=>by cases e)
     rw[List.length_append] at this;exact this)
   exact⟨rfl,.chg hc hB (fun i e=>by obtain⟨q1,cs,t,z,q2,q3⟩:=a2 i (hF i e);exact⟨q1,cs,t,z,q2,.inl q3⟩),bs',_,_,_,_,hs⟩
end
section
variable {Q:Nat->Array Value->Prop}{B g c:Nat}{w:World}{bs:List Nat}{A:Option Addr}{dv u:Value}{f:Fr}{frs:List Fr}{us:List (Value×Nat×Value)}
theorem iI.push (h:iI B Q w g frs none A c dv us bs){gN q5:Nat}{A5:Option Addr}(hB:B<=w.heap.size)(h2:Below w.heap.size w w2)(hN:w.heap.size<=gN)(a4:gN<w2.heap.size)(hg:w2.grownBy w5 (Value.slice A us.length c).ownBlock)
  (a0:w5.ownsRow B 138 1 (.slice A5 (us.length+1) q5) (us.length+1) ((us.map Prod.fst).reverse ++ [u])) (hf:∀P w',w'.heap[gN]?=w2.heap[gN]?->ku P B w' u f (gN,.slice none 0 0)) :
  rv B w (w5.setCell ⟨g,0,none⟩ (.slice A5 (us.length+1) q5))/\iI B Q (w5.setCell ⟨g,0,none⟩ (.slice A5 (us.length+1) q5)) g (f::frs) none A5 q5 dv ((u,gN,.slice none 0 0)::us) (gN::bs):=by
 obtain⟨ap1,ap2⟩:=h.apart;have a5:=ak h.row;have a3:gN≠g:=by omega
 have hob:∀b,(Value.slice A us.length c).ownBlock=some b->b<w.heap.size:=fun b hb=>by obtain⟨_,cur,h3⟩:=ao h.own hb;exact ak h3
 have hc:aP (fun k=>k=g\/(Value.slice A us.length c).ownBlock=some k) w (w5.setCell ⟨g,0,none⟩ (.slice A5 (us.length+1) q5)):=((aP.of_below h2).trans (aP.grown hg) (fun i hi=>.inl (.inr hi))).trans (aP.set g 0 _) (fun i hi=>.inl (.inl hi));have hm:Mw [] w (w5.setCell ⟨g,0,none⟩ (.slice A5 (us.length+1) q5)):=Mw.of_chg hc fun k hk _=>.inr (by
  rcases hk with rfl|hk
  ·exact⟨_,_,_,h.row,eu⟩
  ·obtain⟨_,cur,h3⟩:=ao h.own hk;exact⟨_,_,_,h3,wM⟩)
 have a2:(w5.setCell ⟨g,0,none⟩ (.slice A5 (us.length+1) q5)).heap[gN]?=w2.heap[gN]?:=(Below.heap_setCell _ ⟨g,0,none⟩ _ gN a3).trans (hg.block gN a4 (fun e=>by have:=hob gN e.symm;omega));have g5:w5.heap[g]?=some (.cells #[.slice A us.length c,dv] 128 (0,0)):=(hg.block g (Nat.lt_of_lt_of_le a5 h2.size) (fun e=>(ap2 g e.symm).2 rfl)).trans (ah h.row h2);have hne:=aL a0 g5 (by decide);have a1:∀k∈gN::bs,k∈bs\/w.heap.size<=k:=fun k hk=>by
  rcases List.mem_cons.1 hk with rfl|hk
  ·exact .inr hN
  ·exact .inl hk
 refine⟨.chg hc hB (fun i hi=>by
  rcases hi with rfl|hi
  ·exact⟨h.low,_,_,_,h.row,.inr (.inl rfl)⟩
  ·obtain⟨q1,cur,q2⟩:=ao h.own hi;exact⟨q1,_,_,_,q2,.inr (.inr rfl)⟩),ar g5 0 _,h.low,?_,⟨by simpa using h.frames.1,fun i a b h1 h2=>?_⟩,?_,?_,h.done,fun k cs hq=>⟨fun hk=>?_,hm.2 k _ _ _ (h.lone k cs hq).2 (.inl (.inr (.inr (.inr rfl)))) (by simp)⟩⟩
 rotate_right
 ·rcases a1 k hk with hk|hk
  ·exact(h.lone k cs hq).1 hk
  ·have:=ak (h.lone k cs hq).2;omega
 ·refine bh ?_ fun b hb=>Below.heap_setCell w5 ⟨g,0,none⟩ _ b (fun e=>hne (by have h9:=hb;rw[show b=g from e] at h9;exact h9))
  rw[List.map_cons,List.reverse_cons];exact a0
 ·cases i with
  |zero=>
   simp only[List.getElem?_cons_zero,Option.some.injEq] at h1 h2;subst h1 h2;exact hf _ _ a2
  |succ i=>exact(h.frames.2 i a b (by simpa using h1) (by simpa using h2)).move hm (by simp) a1 (by simp)
 ·rw[List.flatMap_cons,h.blocks];rfl
 ·refine List.nodup_cons.2 ⟨fun hk=>?_,h.nodup⟩;have:=h.lt gN hk;omega
def Gh (B:Nat)(Q:Nat->Array Value->Prop)(g:Nat)(frs:List Fr)(done:Option JV)(w:World)(e:Ending)(w':World):Prop:=e =.returned .nilIface/\rv B w w'/\∃bs',lm B Q w' g frs done bs'
theorem yL (h:lm B Q w g frs none bs)(ht:wJ frs none=true)(hB:B<=w.heap.size)(hl:frs.length<=1000000000):Calls Tryz.prog 35 #[.pointer (some ⟨g,0,none⟩),.int .u8 91] w (Gh B Q g (⟨false, [], [],none⟩::frs) none w):=by
 have HT:=Qa (ji h hl);rw[ht] at HT;have Hl:=Qa hl;have H:=Qa h;clear h ht hl;go_enter Tryz.func35,Tryz.ntmps35;go_wp2_with fail;refine Za HT ?_;rintro e w1 ⟨rfl,a1⟩;obtain⟨A,c,dv,us,hA⟩:=H.out.below a1;have b3:us.length=frs.length:=hA.frames.1;obtain⟨n,hn⟩:∃n,us.length=n:=⟨_,rfl⟩;have b4:n<=1000000000:=by have:=Hl.out;omega
 have hh:=hA.row;have ho:=hA.own;rw[hn] at hh ho;have c0:=ac hh (j:=0) (u:=.slice A n c) rfl;have a0:Below w1.heap.size w1 ((w1.alloc (.cells #[.slice none 0 0] 132)).alloc (.cells #[D4 w1.heap.size] 138)):=((Ze _ _).alloc (Zb _) _).alloc (by simp) _;have a2:=Qa (ai ho a0 (Zb _));have a9:=Qa (av (w1.alloc (.cells #[.slice none 0 0] 132)) [D4 w1.heap.size] 138);have a4:=Qa (ah hh a0);have b0:=Qa (aL a2.out a4.out (by decide));have a3:=Qa ((Below.heap_alloc (w1.alloc (.cells #[.slice none 0 0] 132)) (.cells #[D4 w1.heap.size] 138) w1.heap.size (by simp)).trans (Zf w1 (.cells #[.slice none 0 0] 132)));have HA:=Qa hA;have b2:=Qa a1;have a5:=Qa a0;have HB:=Qa (Zc hB a1.size);have b1:=Qa hB;have Hn:=Qa hn;clear hA a1 a0 hh ho b3 hn H hB;go_wp2_with (at_builtin;refine j3 CZ a2.out (by have:=a9.out;rw[World.size_alloc] at this;exact this) (Zc HB.out a5.out.size) ?_;intro v' w5 p1 p2 p3;obtain⟨A5,q5,rfl,-,-,-⟩:=ag p1;have g5:=ay a4.out p2 b0.out;have f5:=al g5 0;have c5:=ac g5 (j:=0) (u:=.slice A n c) rfl;have HK:=Qa p1;have HG:=Qa p2;clear p1 p2 p3 g5);go_ret;obtain rfl:=Hn.out;obtain⟨r1,r2⟩:=HA.out.push (f:=⟨false, [], [],none⟩) HB.out a5.out (Zb _) (ak a3.out) HG.out HK.out (fun P w' e=>.row w1.heap.size none 0 [] [] HB.out (e.trans a3.out) ⟨rfl,.inl ⟨rfl,rfl⟩⟩ (ch.nil _));exact⟨rfl,(rv.new b2.out b1.out).trans r1,_,_,_,_,_,r2⟩
end
theorem AN (x:Value)(W:World):(Instr.typeAssert (.iface 133 x) 138 133 true).run Tryz.prog W =.ok (.tuple #[x,.bool true]) W:=by kernel_rfl
section
variable {Q:Nat->Array Value->Prop}{B g:Nat}{w:World}{bs:List Nat}{fs:List Fr}{ms:List (ByteArray×JV)}{s:ByteArray}{a aU aE:Addr}
def IE (B:Nat)(Q:Nat->Array Value->Prop)(g:Nat)(fs:List Fr)(ms:List (ByteArray×JV))(s:ByteArray)(er:Value)(w:World)(e:Ending)(w':World):Prop:=(s∈ms.map Prod.fst/\e =.returned er/\Below w.heap.size w w')\/(s∉ms.map Prod.fst/\Gh B Q g (⟨true, [],ms,some s⟩::fs) none w e w')
theorem zo (h:lm B Q w g (⟨true, [],ms,none⟩::fs) none bs)(hs:bi s)(hG:cD w aU aE)(b1:s.size<=1000000000)(hT:w.cell? ⟨6,0,none⟩=some (bp a))(hB:B<=w.heap.size)(hl:fs.length<1000000000)(c7:ms.length<=1000000000) :
  Calls Tryz.prog 36 #[.pointer (some ⟨g,0,none⟩),.string s] w (IE B Q g fs ms s (bp a) w):=by
 obtain⟨A,c,dv,us,hA⟩:=h;obtain⟨u,m,us,rfl,hw,-⟩:=hA.innermost;have hin:=Qa (hA.in_top hl);have HA:=Qa hA;have HB:=Qa hB;have HQ:=Qa (fun w1 (hw:Below w.heap.size w w1)=>oH hs (hG.below hw) b1);have HT:=Qa hT;clear hs hG b1 hA hT hB
 cases hw with
 |table gt At ct L ms s0 nm h1 h2 h3 h4 h5 h6=>
 have H1:=Qa h1;have H2:=Qa h2;have H3:=Qa h3;have H4:=Qa h4;have H5:=Qa h5;have d2:L.length<=1000000000:=by have:=congrArg List.length h4;simp at this;omega
 have d3:=AN;clear h1 h2 h3 h4 h5 h6 c7;go_enter Tryz.func36,Tryz.ntmps36;go_wp2_with fail;refine Za hin ?_;rintro e w1 ⟨rfl,k,rfl⟩;obtain⟨wk,a3⟩:∃wk,w.drewN k=wk:=⟨_,rfl⟩;have a4:Below w.heap.size w wk:=by rw[<-a3];exact ap (Ze _ _) k
 have c2:=ac (ah H2.out a4) (j:=2) (u:=.bool false) rfl;have a9:=Qa a4;rw[a3];clear a3 a4;have d0:=Qa (HQ.out wk a9.out);go_wp2_with fail;refine Za d0 ?_;rintro e w2 ⟨v,rfl,b8,b4⟩;have a5:=Qa (a9.out.trans (b4.mono a9.out.size));obtain⟨Aq,qq,rfl,-⟩:=ag b8;have c0:=ac (ah H2.out a5.out) (j:=0) (u:=.slice At L.length ct) rfl;clear b8 b4 c2;go_wp2_with fail
 go_loopg [10,39] L.length (fun k _ s39 wr=> ∃i:Nat,k+i=L.length/\s39 =.int .i64 i/\Below w2.heap.size w2 wr/\∀ (j:Nat) (p:ByteArray×Value),j<i->L[j]?=some p->p.1≠s)
 case atStart=>exact⟨0,rfl,rfl,Ze _ _,fun j p h=>by omega⟩
 case round=>
  obtain⟨i,hk,rfl,hb,b3⟩:=hrel;have Hb:=Qa (a5.out.trans (hb.mono a5.out.size));have c8:=Qa hb;have b2:=Qa b3;have Hk:=Qa hk;clear b3 hb hk c0
  by_cases hlt:i<L.length
  ·obtain⟨p,hp⟩:∃p,L[i]?=some p:=⟨_,Zd hlt⟩;obtain⟨gm,rfl,q0,q1⟩:=(vm.rm H3.out).2.below Hb.out i p hp;obtain⟨tv,xv,hx⟩:∃t x,p.2 =.iface t x:=by
    have c9:=H5.out.1;obtain⟨b,hb⟩:∃b,(ms.map Prod.snd)[i]?=some b:=⟨_,Zd (by rw[<-c9];simpa using hlt)⟩;exact(H5.out.2 i p.2 b (by rw[List.getElem?_map,hp];rfl) hb).iface
   rw[hx] at q1;have b0:(i:Int)<L.length:=by omega
   have Hp:=Qa hp
   by_cases he:p.1=s
   ·have c5:(p.1.toList==s.toList)=true:=by rw[he];simp
    have a1:=aa wr (.cells #[.string p.1,.iface tv xv] 82);have cT:=Zg (Hb.out.trans (a1.mono Hb.out.size)) HT.out;have c3:=Qa (Hb.out.trans (a1.mono Hb.out.size));have He:=Qa he;clear hp hx he a1;go_wp2_with fail;go_ret;exact .inl ⟨by rw[<-H4.out];exact List.mem_map.2 ⟨p,Zk Hp.out,He.out⟩,rfl,c3.out⟩
   ·have c5:(p.1.toList==s.toList)=false:=by rw[eo];simpa using he
    have He:=Qa he;clear hp hx he;go_wp2_with fail;go_roundg (L.length - (i+1))
    case measure=>have:=Hk.out;omega
    case rel=>
     refine⟨i+1,by omega,by go_num,aj c8.out (aa _ _),fun j q hj hq=>?_⟩
     by_cases e:j=i
     ·subst e;rw[Hp.out] at hq;rw[<-Zi hq];exact He.out
     ·exact b2.out j q (by omega) hq
  ·obtain rfl:i=L.length:=by have:=Hk.out;omega
   have b0:¬ (L.length:Int)<L.length:=by omega
   have hr:=ah H2.out Hb.out;have k1:=ac hr (j:=1) (u:=.string s0) rfl;have f1:=al hr 1;have a0:=ar hr 1 (.string s);have k2:=ac a0 (j:=2) (u:=.bool false) rfl;have f2:=al a0 2;have Hr:=Qa a0;have d1:=Qa hlt;clear hr a0 hlt;go_wp2_with fail;go_ret;have c4:=HA.out.below Hb.out;have hc:aP (fun k=>k=gt) wr ((wr.setCell ⟨gt,1,none⟩ (.string s)).setCell ⟨gt,2,none⟩ (.bool true)):=(aP.set gt 1 _).trans (aP.set gt 2 _) fun i hi=>.inl hi
   have b5:vm wr B (.slice At L.length ct) L:=ai H3.out Hb.out (Zb _);have hne:=aL H3.out H2.out (by decide);have c6:s∉ms.map Prod.fst:=fun hm=>by
    rw[<-H4.out] at hm;obtain⟨p,hp,c1⟩:=List.mem_map.1 hm;obtain⟨j,hj,rfl⟩:=List.getElem_of_mem hp;exact b2.out j _ hj (Zd hj) c1
   obtain⟨bs',hs⟩:=c4.swap (m':=(gt,.slice At L.length ct)) (f':=⟨true, [],ms,some s⟩) hc (fun k hk=>by subst hk;simp[cI]) (fun k hk=>.inl hk) (by
     refine List.nodup_cons.2 ⟨fun hk=>hne (by simpa using hk),?_⟩
     cases (Value.slice At L.length ct).ownBlock <;> simp) (fun bs2 hm b9 a2=>.table gt At ct L ms s (some s) H1.out (ar Hr.out 2 _) (bh b5 fun b hb=>hc.block b (ak (ao b5 hb).2.choose_spec) fun e=>hne (by rw[hb,e])) H4.out ((H5.out.mono fun _ _ h=>h.later Hb.out).mono fun _ _ h=>h.move hm.mv a2 b9) (fun t e=>Zi e))
   exact .inr ⟨c6,rfl,(rv.new Hb.out HB.out).trans (.chg hc (Zc HB.out Hb.out.size) fun i e=>by subst e;exact⟨H1.out,_,_,_,ah H2.out Hb.out,.inl (.inr (.inr rfl))⟩),bs',_,_,_,_,hs⟩
end
