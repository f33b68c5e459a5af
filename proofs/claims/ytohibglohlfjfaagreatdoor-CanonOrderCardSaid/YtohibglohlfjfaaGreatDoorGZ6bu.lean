import Derived.Test.YtohibglohlfjfaaGreatDoorGZ6bt
set_option linter.unusedVariables false
set_option linter.unusedSimpArgs false
set_option maxHeartbeats 64000000
set_option maxRecDepth 100000
namespace Go.Proofs.YtohibglohlfjfaaGreatDoor
open Go.RowKit Go.Shelf
variable {j:JV}{us:List Value}{B base c g gr gt n:Nat}{F P:Nat->Prop}{A:Option Addr}{T:TypeId->Prop}{v x:Value}{w w' w2 w5:World}
theorem rP:Calls Tryz.prog 297 #[x] w fun e w'=>e =.returned (.bool true)/\w=w':=by
 go_enter Tryz.func297,Tryz.ntmps297;go_wp2_with fail;go_ret;exact⟨rfl,rfl⟩
theorem nN {m nm:Value}{b:Bool}(h:w.heap[g]?=some (.cells #[m,nm,.bool b] 90 (0,0))):Calls Tryz.prog 300 #[.pointer (some ⟨g,0,none⟩)] w fun e w'=>e =.returned (.bool b)/\w=w':=by
 have c0:=aa h (j:=2) (u:=.bool b) rfl;clear h;go_enter Tryz.func300,Tryz.ntmps300;go_wp2_with fail;go_ret;exact⟨rfl,rfl⟩
theorem te (h:w.heap[g]?=some (.cells #[.slice A 0 c,.nilIface] 83 (0,0))):Calls Tryz.prog 33 #[.pointer (some ⟨g,0,none⟩)] w fun e w'=>e =.returned (.bool true)/\Below w.heap.size w w':=by
 have c1:=aa h (j:=1) (u:=.nilIface) rfl;have H:=Qa (oJ h);clear h;go_enter Tryz.func33,Tryz.ntmps33;go_wp2_with fail;refine Za H ?_;rintro e w1 ⟨rfl,rfl⟩;go_wp2_with fail;go_ret;exact⟨rfl,Ze _ _⟩
theorem tA {t:TypeId}(h:w.heap[g]?=some (.cells #[.slice A 0 c,.iface t x] 83 (0,0))):Calls Tryz.prog 33 #[.pointer (some ⟨g,0,none⟩)] w fun e w'=>e =.returned (.bool false)/\Below w.heap.size w w':=by
 have c1:=aa h (j:=1) (u:=.iface t x) rfl;have H:=Qa (oJ h);clear h;go_enter Tryz.func33,Tryz.ntmps33;go_wp2_with fail;refine Za H ?_;rintro e w1 ⟨rfl,rfl⟩;go_wp2_with fail;go_ret;exact⟨rfl,Ze _ _⟩
theorem vJ (H:Calls Tryz.prog 34 #[.pointer (some ⟨g,0,none⟩)] w fun e w'=>e =.returned (.iface 84 x)/\Below w.heap.size w w'):Calls Tryz.prog 33 #[.pointer (some ⟨g,0,none⟩)] w fun e w'=>e =.returned (.bool true)/\Below w.heap.size w w':=by
 go_enter Tryz.func33,Tryz.ntmps33;go_wp2_with fail;refine H.mono ?_;rintro e w1 ⟨rfl,hb⟩;go_wp2_with fail;refine rP.mono ?_;rintro e w2 ⟨rfl,rfl⟩;go_wp2_with fail;go_ret;exact⟨rfl,hb⟩
theorem qp {m nm:Value}{b:Bool}(h:w.heap[gt]?=some (.cells #[m,nm,.bool b] 90 (0,0)))(H:Calls Tryz.prog 34 #[.pointer (some ⟨g,0,none⟩)] w fun e w'=>e =.returned (.iface 87 (.pointer (some ⟨gt,0,none⟩)))/\Below w.heap.size w w'):Calls Tryz.prog 33 #[.pointer (some ⟨g,0,none⟩)] w fun e w'=>e =.returned (.bool b)/\Below w.heap.size w w':=by
 have HT:=Qa (fun w1 (hw:Below w.heap.size w w1)=>nN (ai h hw));clear h;go_enter Tryz.func33,Tryz.ntmps33;go_wp2_with fail;refine H.mono ?_;rintro e w1 ⟨rfl,hb⟩;have a0:=Qa (HT.out w1 hb);go_wp2_with fail;refine Za a0 ?_;rintro e w2 ⟨rfl,rfl⟩;go_wp2_with fail;go_ret;exact⟨rfl,hb⟩
theorem vL {t:TypeId}(h:w.heap[g]?=some (.cells #[.slice A us.length c] 86 (0,0)))(ho:w.ownsRow base 32 1 (.slice A us.length c) us.length us)(hb:base<=w.heap.size)(hl:us.length<=1000000000)(hn:∀b,(Value.slice A us.length c).ownBlock=some b->b≠g) :
  Calls Tryz.prog 295 #[.pointer (some ⟨g,0,none⟩),.iface t x] w fun e w'=>e =.returned (.tuple #[])/\∃A' q,w'.heap[g]?=some (.cells #[.slice A' (us.length+1) q] 86 (0,0))/\w'.ownsRow base 32 1 (.slice A' (us.length+1) q) (us.length+1) (us ++ [.iface t x])/\aZ (fun k=>k=g\/(Value.slice A us.length c).ownBlock=some k) w w'/\((Value.slice A' (us.length+1) q).ownBlock= (Value.slice A us.length c).ownBlock\/∃b,(Value.slice A' (us.length+1) q).ownBlock=some b/\w.heap.size<=b):=by
 have c0:=aa h (j:=0) (u:=.slice A us.length c) rfl;have a0:=Qa (ac w (.cells #[.iface t x] 32));have a3:=Qa (ap w [.iface t x] 32);have Ho:=Qa (ao ho a0.out (Zb _));have H:=Qa (ai h a0.out);have a2:=Qa (show base<=(w.alloc (.cells #[.iface t x] 32)).heap.size from Zc hb a0.out.size);have Hn:=Qa hn;obtain⟨n,a1⟩:∃n,us.length=n:=⟨_,rfl⟩;have a4:=Qa a1;rw[a1] at Ho H Hn c0 hl ⊢;clear h ho hn a1;go_enter Tryz.func295,Tryz.ntmps295;go_wp2_with (at_builtin;refine km yI Ho.out a3.out a2.out ?_;intro v' w5 p1 p2 p3;obtain⟨A5,q5,rfl,-,-,-⟩:=ag p1;have g5:=aB H.out p2 (fun e=>Hn.out g e rfl);have f5:=ak g5 0;have c5:=aa g5 (j:=0) (u:=.slice A n c) rfl;have G5:=Qa g5;have HK:=Qa p1;have HG:=Qa p2;have HD:=Qa p3;clear p1 p2 p3 g5);go_end0;have hne:∀b,(Value.slice A5 (n+1) q5).ownBlock=some b->¬b=g:=fun b hb e=>by
  have hg:=ae H.out;rcases HD.out with h|h
  ·exact Hn.out b (h▸hb) e
  ·rw[h] at hb;have:=Zi hb;omega
 refine⟨rfl,⟨A5,q5,au G5.out 0 _,bw HK.out (fun b hb=>?_),?_,?_⟩⟩
 ·exact(aZ.set g 0 _).block b (by obtain⟨_,cur,hg⟩:=aj HK.out hb;exact ae hg) (hne b hb)
 ·exact((aZ.of_below a0.out).trans (aZ.grown HG.out) (fun i h=>.inl (.inr h))).trans (aZ.set g 0 _) (fun i h=>.inl (.inl h))
 ·rcases HD.out with h|h
  ·exact .inl h
  ·exact .inr ⟨_,h,a0.out.size⟩
theorem qu {d:Value}{t:TypeId}(h:w.heap[g]?=some (.cells #[.slice A 0 c,d] 83 (0,0)))(hd:d.oneCell'=true):Calls Tryz.prog 36 #[.pointer (some ⟨g,0,none⟩),.iface t x] w fun e w'=>e =.returned (.tuple #[])/\w'.heap[g]?=some (.cells #[.slice A 0 c,.iface t x] 83 (0,0))/\aZ (fun k=>k=g) w w':=by
 have c1:=aa h (j:=1) (u:=d) rfl;have f1:=ak h 1;have H:=Qa (oJ h);have Hs:=Qa (au h 1 (.iface t x));clear h;go_enter Tryz.func36,Tryz.ntmps36;go_wp2_with fail;refine Za H ?_;rintro e w1 ⟨rfl,rfl⟩;go_wp2_with fail;go_end0;exact⟨rfl,Hs.out,aZ.set g 1 _⟩
def BK (w:World)(base gr:Nat)(A:Option Addr)(c:Nat)(us:List Value)(v:Value)(w':World):Prop:= ∃A' q,w'.heap[gr]?=some (.cells #[.slice A' (us.length+1) q] 86 (0,0))/\w'.ownsRow base 32 1 (.slice A' (us.length+1) q) (us.length+1) (us ++ [v])/\aZ (fun k=>k=gr\/(Value.slice A us.length c).ownBlock=some k) w w'/\((Value.slice A' (us.length+1) q).ownBlock= (Value.slice A us.length c).ownBlock\/∃b,(Value.slice A' (us.length+1) q).ownBlock=some b/\w.heap.size<=b)
theorem uW {t:TypeId}(HI:Calls Tryz.prog 34 #[.pointer (some ⟨g,0,none⟩)] w fun e w'=>e =.returned (.iface 84 (.pointer (some ⟨gr,0,none⟩)))/\∃m,w'=w.drewN m)
  (h:w.heap[gr]?=some (.cells #[.slice A us.length c] 86 (0,0))) (ho:w.ownsRow base 32 1 (.slice A us.length c) us.length us) (hb:base<=w.heap.size) (hl:us.length<=1000000000) (hn:∀b,(Value.slice A us.length c).ownBlock=some b->b≠gr) :
  Calls Tryz.prog 36 #[.pointer (some ⟨g,0,none⟩),.iface t x] w fun e w'=>e =.returned (.tuple #[])/\∃m,BK (w.drewN m) base gr A c us (.iface t x) w':=by
 have HA:=Qa (fun m=>vL (w:=w.drewN m) (t:=t) (x:=x) h ho hb hl hn);clear h ho hb hl hn;go_enter Tryz.func36,Tryz.ntmps36;go_wp2_with fail;refine HI.mono ?_;rintro e w1 ⟨rfl,m,rfl⟩;have a0:=Qa (HA.out m);go_wp2_with fail;refine Za a0 ?_;rintro e w2 ⟨rfl,hr⟩;go_wp2_with fail;(try simp only[Exit.inBlock,Exit.then]);refine Zh (results_none rfl ..) rfl ?_;exact⟨rfl,m,hr⟩
theorem It:dq 81 93 .nilIface 1 16:=⟨Tryz.underlying81,by kernel_rfl,rfl,by decide⟩
abbrev J5 (g:Nat):Value:=.iface 84 (.pointer (some ⟨g,0,none⟩))
abbrev ES (g:Nat):Value:=.iface 87 (.pointer (some ⟨g,0,none⟩))
def dD (m:Nat×Value):List Nat:=m.1::m.2.ownBlock.toList
inductive k7 (P:Nat->Prop) (B:Nat) (w:World):Value->Fr->Nat×Value->Prop
 |row (g:Nat) (A:Option Addr) (c:Nat) (us:List Value) (its:List JV):B<=g->w.heap[g]?=some (.cells #[.slice A us.length c] 86 (0,0))->w.ownsRow B 32 1 (.slice A us.length c) us.length us->bo (VW P w) us its->k7 P B w (J5 g) ⟨false,its, [],none⟩ (g,.slice A us.length c)
 |table (g:Nat) (A:Option Addr) (c:Nat) (L:List (ByteArray×Value)) (ms:List (ByteArray×JV)) (s:ByteArray) (nm:Option ByteArray):B<=g->w.heap[g]?=some (.cells #[.slice A L.length c,.string s,.bool nm.isSome] 90 (0,0))->vD w B (.slice A L.length c) L->L.map Prod.fst=ms.map Prod.fst->bo (VW P w) (L.map Prod.snd) (ms.map Prod.snd)->(∀t,nm=some t->s=t)->k7 P B w (ES g) ⟨true, [],ms,nm⟩ (g,.slice A L.length c)
def TX (e:TypeId):Prop:=TV e\/e=86\/e=90
theorem gS:¬TX 83:=by rintro((h|h|h|h)|h|h) <;> exact absurd h (by decide)
theorem yB:¬TX 93:=by rintro((h|h|h|h)|h|h) <;> exact absurd h (by decide)
def TW (e:TypeId):Prop:=TX e\/e=83\/e=93
structure wW (B:Nat) (w w':World):Prop where
 b:Below B w w'
 keep:aG TW w w'
theorem wW.trans {a b c:World}(h:wW B a b)(k:wW B b c):wW B a c:=⟨h.b.trans k.b,h.keep.trans k.keep⟩
theorem wW.new (h:Below w.heap.size w w')(hB:B<=w.heap.size):wW B w w':=⟨h.mono hB,aG.of_below TW h⟩
theorem wW.chg (h:aZ F w w')(hB:B<=w.heap.size)(hF:∀k,F k->B<=k/\∃cs e z,w.heap[k]?=some (.cells cs e z)/\TW e):wW B w w':=
 ⟨h.below hB fun i hi=>(hF i hi).1,(Kp.of_chg h fun g hg _=>(hF g hg).2).keeps⟩
def Mw (top:List Nat)(w w':World):Prop:=w.heap.size<=w'.heap.size/\∀ (g:Nat) (cs:Array Value) (e:TypeId) (z:Nat×Nat),w.heap[g]?=some (.cells cs e z)->TX e->g∉top->w'.heap[g]?=some (.cells cs e z)
section
variable {B g c:Nat}{w w':World}{bs bs' top:List Nat}{A:Option Addr}{dv u:Value}{f f':Fr}{fs frs:List Fr}{done:Option JV}{m m':Nat×Value}{us:List (Value×Nat×Value)}
theorem Mw.mv (h:Mw top w w'):Mv top w w':=⟨h.1,fun g cs e z hg he ht=>h.2 g cs e z hg (.inl he) ht⟩
theorem Mw.of_below (h:Below w.heap.size w w'):Mw top w w':=⟨h.size,fun g cs e z hg _ _=>(h.block g (ae hg)).trans hg⟩
theorem Mw.of_kp (h:Kp T w w')(hT:∀e,TX e->¬T e):Mw top w w':=⟨h.1,fun g cs e z hg he _=>h.heap hg (hT e he)⟩
theorem Mw.of_chg (h:aZ F w w')(hF:∀g,F g->g<w.heap.size->g∈top\/∃cs e z,w.heap[g]?=some (.cells cs e z)/\¬TX e):Mw top w w':=by
 refine⟨h.size,fun g cs e z hg he ht=>(h.block g (ae hg) fun hf=>?_).trans hg⟩;rcases hF g hf (ae hg) with h1|⟨cs',e',z',h1,h2⟩
 ·exact ht h1
 ·rw[h1] at hg;injection hg with hg
  injection hg with _ hg _
  subst hg;exact h2 he
theorem k7.typed (h:k7 P B w u f m){k:Nat}(hk:k∈dD m):B<=k/\∃cs e z,w.heap[k]?=some (.cells cs e z)/\TX e:=by
 cases h with
 |row g A c us its h1 h2 h3 h4=>
  simp only[dD,List.mem_cons,Option.mem_toList] at hk;rcases hk with rfl|hk
  ·exact⟨h1,_,_,_,h2,.inr (.inl rfl)⟩
  ·obtain⟨q1,cur,q2⟩:=aj h3 hk;exact⟨q1,_,_,_,q2,.inl (.inr (.inr (.inl rfl)))⟩
 |table g A c L ms s nm h1 h2 h3 h4 h5 h6=>
  simp only[dD,List.mem_cons,Option.mem_toList] at hk;rcases hk with rfl|hk
  ·exact⟨h1,_,_,_,h2,.inr (.inr rfl)⟩
  ·obtain⟨q1,cur,q2⟩:=aj h3 hk;exact⟨q1,_,_,_,q2,.inl (.inr (.inr (.inr rfl)))⟩
theorem k7.move (h:k7 (Pb B bs) B w u f m)(hm:Mw top w w')(ht:∀g∈top,g∈bs)(a0:∀g∈bs',g∈bs\/w.heap.size<=g)(hu:∀g∈dD m,g∉top):k7 (Pb B bs') B w' u f m:=by
 cases h with
 |row g A c us its h1 h2 h3 h4=>exact .row g A c us its h1 (hm.2 g _ _ _ h2 (.inr (.inl rfl)) (hu g (by simp[dD]))) (kK h3 hm.mv (.inr (.inr (.inl rfl))) fun b hb=>hu b (by simp[dD,hb])) (h4.mono fun _ _ h=>h.move hm.mv ht a0)
 |table g A c L ms s nm h1 h2 h3 h4 h5 h6=>exact .table g A c L ms s nm h1 (hm.2 g _ _ _ h2 (.inr (.inr rfl)) (hu g (by simp[dD]))) (kK h3 hm.mv (.inr (.inr (.inr rfl))) fun b hb=>hu b (by simp[dD,hb])) h4 (h5.mono fun _ _ h=>h.move hm.mv ht a0) h6
structure kn (B:Nat) (w:World) (g:Nat) (frs:List Fr) (done:Option JV) (A:Option Addr) (c:Nat) (dv:Value) (us:List (Value×Nat×Value)) (bs:List Nat):Prop where
 row:w.heap[g]?=some (.cells #[.slice A us.length c,dv] 83 (0,0))
 low:B<=g
 own:w.ownsRow B 93 1 (.slice A us.length c) us.length (us.map Prod.fst).reverse
 frames:bo (fun u f=>k7 (Pb B bs) B w u.1 f u.2) us frs
 blocks:us.flatMap (fun u=>dD u.2)=bs
 nodup:bs.Nodup
 done:nM (Pb B bs) w dv done
def uc (B:Nat)(w:World)(g:Nat)(frs:List Fr)(done:Option JV)(bs:List Nat):Prop:= ∃A c dv us,kn B w g frs done A c dv us bs
theorem kn.typed (h:kn B w g frs done A c dv us bs){k:Nat}(hk:k∈bs):B<=k/\∃cs e z,w.heap[k]?=some (.cells cs e z)/\TX e:=by
 rw[<-h.blocks] at hk;obtain⟨x,hx,a0⟩:=List.mem_flatMap.1 hk;obtain⟨i,hi,rfl⟩:=List.getElem_of_mem hx;have hl:=h.frames.1;exact(h.frames.2 i us[i] (frs[i]'(by omega)) (Zd hi) (Zd _)).typed a0
theorem kn.lt (h:kn B w g frs done A c dv us bs):∀k∈bs,k<w.heap.size:=fun k hk=>by obtain⟨_,cs,e,z,h1,_⟩:=h.typed hk;exact ae h1
theorem uc.lt (h:uc B w g frs done bs):∀k∈bs,k<w.heap.size:=by obtain⟨_,_,_,_,h⟩:=h;exact h.lt
theorem kn.apart (h:kn B w g frs done A c dv us bs):g∉bs/\∀b,(Value.slice A us.length c).ownBlock=some b->b∉bs/\b≠g:=by
 refine⟨fun hk=>?_,fun b hb=>⟨fun hk=>?_,fun e=>?_⟩⟩
 ·obtain⟨_,cs,e,z,h1,h2⟩:=h.typed hk;rw[h.row] at h1;injection h1 with h1
  injection h1 with _ h1 _
  exact gS (h1▸h2)
 ·obtain⟨_,cs,e,z,h1,h2⟩:=h.typed hk;obtain⟨_,cur,h3⟩:=aj h.own hb;rw[h3] at h1;injection h1 with h1
  injection h1 with _ h1 _
  exact yB (h1▸h2)
 ·obtain⟨_,cur,h3⟩:=aj h.own hb;rw[e,h.row] at h3;injection h3 with h3
  injection h3 with _ h3 _
  exact absurd h3 (by decide)
theorem kn.move (h:kn B w g frs done A c dv us bs)(hm:Mw [] w w')(hg:w'.heap[g]?=w.heap[g]?)(ho:∀b,(Value.slice A us.length c).ownBlock=some b->w'.heap[b]?=w.heap[b]?):kn B w' g frs done A c dv us bs:=
 have a0:∀k∈bs,k∈bs\/w.heap.size<=k:=fun k hk=>.inl hk
 ⟨hg.trans h.row,h.low,bw h.own ho,h.frames.mono fun _ _ h=>h.move hm (by simp) a0 (by simp),h.blocks,h.nodup,h.done.move hm.mv (by simp) a0⟩
theorem kn.below (h:kn B w g frs done A c dv us bs)(hb:Below w.heap.size w w'):kn B w' g frs done A c dv us bs:=
 h.move (Mw.of_below hb) (hb.block g (ae h.row)) fun b a0=>by obtain⟨_,cur,h3⟩:=aj h.own a0;exact hb.block b (ae h3)
theorem uc.below (h:uc B w g frs done bs)(hb:Below w.heap.size w w'):uc B w' g frs done bs:=by obtain⟨A,c,dv,us,h⟩:=h;exact⟨A,c,dv,us,h.below hb⟩
theorem kn.empty (h:kn B w g [] done A c dv us bs):us = []/\bs = []:=by
 have:=h.frames.1;obtain rfl:=List.eq_nil_of_length_eq_zero (show us.length=0 by simpa using this);exact⟨rfl,h.blocks.symm⟩
theorem kn.innermost (h:kn B w g (f::fs) done A c dv us bs):∃u m us',us= (u,m)::us'/\k7 (Pb B bs) B w u f m/\us'.length=fs.length:=by
 cases us with
 |nil=>have:=h.frames.1;simp at this
 |cons x us=>exact⟨x.1,x.2,us,rfl,h.frames.2 0 _ _ rfl rfl,by have:=h.frames.1;simpa using this⟩
theorem kn.swap (h:kn B w g (f::fs) done A c dv ((u,m)::us) bs)(hc:aZ F w w')(hF:∀k,F k->k∈dD m)
  (hn:∀k∈dD m',k∈dD m\/w.heap.size<=k) (a4:(dD m').Nodup)
  (hw:∀bs',Mw (dD m) w w'->(∀k∈bs',k∈bs\/w.heap.size<=k)->(∀k∈dD m,k∈bs)->k7 (Pb B bs') B w' u f' m') :
  ∃bs',kn B w' g (f'::fs) done A c dv ((u,m')::us) bs':=by
 obtain⟨ap1,ap2⟩:=h.apart;have a0:∀k∈dD m,k∈bs:=fun k hk=>by rw[<-h.blocks];exact List.mem_append_left _ hk
 have hm:Mw (dD m) w w':=Mw.of_chg hc fun k hk _=>.inl (hF k hk)
 have a2:∀k∈dD m'++us.flatMap (fun u=>dD u.2),k∈bs\/w.heap.size<=k:=fun k hk=>by
  rcases List.mem_append.1 hk with hk|hk
  ·exact(hn k hk).imp (a0 k) id
  ·exact .inl (by rw[<-h.blocks];exact List.mem_append_right _ hk)
 have a1:=h.nodup;rw[<-h.blocks,List.flatMap_cons,List.nodup_append] at a1;obtain⟨n1,n2,n3⟩:=a1;refine⟨dD m'++us.flatMap (fun u=>dD u.2),(hc.block g (ae h.row) fun hf=>ap1 (a0 g (hF g hf))).trans h.row,h.low,bw h.own fun b hb=>?_,⟨by simpa using h.frames.1,fun i a b h1 h2=>?_⟩,rfl,?_,h.done.move hm.mv a0 a2⟩
 ·obtain⟨_,cur,h3⟩:=aj h.own hb;exact hc.block b (ae h3) fun hf=>(ap2 b hb).1 (a0 b (hF b hf))
 ·cases i with
  |zero=>
   simp only[List.getElem?_cons_zero,Option.some.injEq] at h1 h2;subst h1 h2;exact hw _ hm a2 a0
  |succ i=>
   have a5:us[i]?=some a:=by simpa using h1
   have:=h.frames.2 (i+1) a b (by simpa using h1) (by simpa using h2);exact this.move hm a0 a2 fun k hk a3=>n3 k a3 k (List.mem_flatMap.2 ⟨a,Zl a5,hk⟩) rfl
 ·rw[List.nodup_append];refine⟨a4,n2,fun a ha b hb e=>?_⟩;subst e;rcases hn a ha with h1|h1
  ·exact n3 a h1 a hb rfl
  ·have:=h.lt a (by rw[<-h.blocks];exact List.mem_append_right _ hb);omega
theorem kn.pop (h:kn B w g (f::fs) done A c dv ((u,m)::us) bs):kn B (w.setCell ⟨g,0,none⟩ (.slice A us.length c)) g fs done A c dv us (us.flatMap fun u=>dD u.2):=by
 obtain⟨ap1,ap2⟩:=h.apart;have hc:=aZ.set (w:=w) g 0 (.slice A us.length c);have hm:Mw [] w (w.setCell ⟨g,0,none⟩ (.slice A us.length c)):=Mw.of_chg hc fun k hk _=>.inr (by subst hk;exact⟨_,_,_,h.row,gS⟩)
 have a2:∀k∈us.flatMap (fun u=>dD u.2),k∈bs\/w.heap.size<=k:=fun k hk=>.inl (by rw[<-h.blocks];exact List.mem_append_right _ hk)
 have a0:=h.nodup;rw[<-h.blocks,List.flatMap_cons,List.nodup_append] at a0;have ho:=h.own;rw[List.map_cons,List.reverse_cons,List.length_cons] at ho;refine⟨au h.row 0 _,h.low,bw (kd ho (by simp)) fun b hb=>?_,⟨by simpa using h.frames.1,fun i a b h1 h2=>?_⟩,rfl,a0.2.1,h.done.move hm.mv (by simp) a2⟩
 ·have a1:(Value.slice A (us.length+1) c).ownBlock=some b:=by
   cases A with
   |none=>simp[Value.ownBlock] at hb
   |some a=>simpa [Value.ownBlock] using hb
  obtain⟨_,cur,h3⟩:=aj ho a1;exact hc.block b (ae h3) (ap2 b a1).2
 ·exact(h.frames.2 (i+1) a b (by simpa using h1) (by simpa using h2)).move hm (by simp) a2 (by simp)
end
def vg (w:World)(base g:Nat)(A:Option Addr)(c n:Nat)(s:ByteArray)(xs:List Value)(v:Value)(w':World):Prop:= ∃A' q,w'.heap[g]?=some (.cells #[.slice A' (n+1) q,.string s,.bool false] 90 (0,0))/\w'.ownsRow base 97 2 (.slice A' (n+1) q) (n+1) (xs ++ [.string s,v])/\aZ (fun k=>k=g\/(Value.slice A n c).ownBlock=some k) w w'/\((Value.slice A' (n+1) q).ownBlock= (Value.slice A n c).ownBlock\/∃b,(Value.slice A' (n+1) q).ownBlock=some b/\w.heap.size<=b)
theorem qn {xs:List Value}{s:ByteArray}{b:Bool}{t:TypeId}(h:w.heap[g]?=some (.cells #[.slice A n c,.string s,.bool b] 90 (0,0)))(ho:w.ownsRow base 97 2 (.slice A n c) n xs)(hb:base<=w.heap.size)(hl:n<=1000000000) :
  Calls Tryz.prog 298 #[.pointer (some ⟨g,0,none⟩),.iface t x] w fun e w'=>e =.returned (.tuple #[])/\vg w base g A c n s xs (.iface t x) w':=by
 obtain⟨wr,a2⟩:∃wr,w.drew=wr:=⟨_,rfl⟩;have a3:Below w.heap.size w wr:=by rw[<-a2];exact(Ze _ _).drew
 have a9:wr.heap.size=w.heap.size:=by rw[<-a2];rfl
 have hr:=ai h a3;have K0:=Qa (aa hr (j:=0) (u:=.slice A n c) rfl);have K1:=Qa (aa hr (j:=1) (u:=.string s) rfl);have a1:=Qa (ac wr (.cells #[.string s,.iface t x] 97));have b0:=Qa (ao (ao ho a3 (Zb _)) a1.out (Zb _));have b5:=Qa (ap wr [.string s,.iface t x] 97);have a7:=Qa (ai hr a1.out);have b4:=Qa (aK b0.out a7.out (by decide));have b3:=Qa a3;have a5:=Qa a9;have Hb:=Qa hb;clear h ho hr a3 a9 hb;go_enter Tryz.func298,Tryz.ntmps298;go_wp2_with fail;refine cP (fun w'=>w'.cell? ⟨g,0,none⟩=some (.slice A n c)/\w'.cell? ⟨g,1,none⟩=some (.string s)) 15 ((by rw[a2];exact⟨K0.out,K1.out⟩)) fun a0=>?_
 rw[a2] at a0 ⊢;clear a2;refine tZ 0 a0 ?_;refine tZ 1 a0 ?_;refine tZ 2 a0 ?_;refine tZ 3 a0 ?_;refine tZ 4 a0 ?_;refine tZ 5 a0 ?_
 try simp only[Act.put,jP,jQ,jR]
 refine tZ 6 a0 ?_;refine tZ 7 a0 ?_;refine tZ 8 a0 ?_;refine tZ 9 a0 ?_;refine tZ 10 a0 ?_
 try simp only[Act.put,jP,jQ,jR]
 refine rZ 11 fun K hK=>?_
 go_simp;refine hK.out _ _ (fun _=>⟨Zg a1.out a0.1,Zg a1.out a0.2⟩) (fun a0=>?_);clear hK K;have a0:=a0 (by decide)
 try simp only[Act.put,jP,jQ,jR]
 refine rZ 12 fun K hK=>?_
 refine xU yF b0.out b5.out (by have:=a5.out;have:=a1.out.size;have:=Hb.out;omega) ?_;intro v' w5 p1 p2 p3;obtain⟨A5,q5,rfl,-,-,-⟩:=ag p1;have g5:=aB a7.out p2 b4.out;have f5:=ak g5 0;have G5:=Qa g5;have HK:=Qa p1;have HG:=Qa p2;have HD:=Qa p3;have k5:=aa g5 (j:=0) (u:=.slice A n c) rfl;have k53:=aa g5 (j:=1) (u:=.string s) rfl;clear p1 p2 p3 g5;refine hK.out _ _ (fun _=>⟨k5,k53⟩) (fun a0=>?_);clear hK K;have a0:=a0 (by decide)
 try simp only[Act.put,jP,jQ,jR]
 refine rZ 13 fun K hK=>?_
 go_simp;refine hK.out _ _ (fun _=>a0) (fun a0=>?_);clear hK K;have a0:=a0 (by decide)
 try simp only[Act.put,jP,jQ,jR]
 refine tZ 14 a0 ?_
 try simp only[Act.put,jP,jQ,jR]
 refine rZ 15 fun K hK=>?_
 go_simp;refine hK.out _ _ (fun h=>absurd rfl h) (fun _=>?_);clear hK K
 try simp only[Act.put,jP,jQ,jR]
 refine aW (by kernel_rfl) (NoPanic.normal ?_) _;clear a0 f5;have g6:=au G5.out 0 (.slice A5 (n+1) q5);have f6:=ak g6 2;have k6:=aa g6 (j:=2) (u:=.bool b) rfl;have a4:=aZ.set (w:=w5) g 0 (.slice A5 (n+1) q5);obtain⟨w6,b2⟩:∃w6,w5.setCell ⟨g,0,none⟩ (.slice A5 (n+1) q5)=w6:=⟨_,rfl⟩;rw[b2] at g6 f6 k6 a4 ⊢;have a6:=Qa a4;have G6:=Qa g6;clear g6 b2 a4;go_wp2_with fail;go_end0;have hne:=aK HK.out G5.out (by decide);have b6:aZ (fun k=>k=g\/(Value.slice A n c).ownBlock=some k) w (w6.setCell ⟨g,2,none⟩ (.bool false)):=
  (((aZ.of_below (b3.out.trans (a1.out.mono (by have:=a5.out;omega)))).trans (aZ.grown HG.out) (fun i h=>.inl (.inr h))).trans a6.out (fun i h=>.inl (.inl h))).trans (aZ.set g 2 _) (fun i h=>.inl (.inl h))
 refine⟨rfl,A5,q5,au G6.out 2 _,bw HK.out fun b hb=>?_,b6,?_⟩
 ·have b1:b≠g:=fun e=>hne (by rw[hb,e])
  exact(Below.heap_setCell w6 ⟨g,2,none⟩ _ b b1).trans (a6.out.block b (ae (aj HK.out hb).2.choose_spec) b1)
 ·rcases HD.out with h|h
  ·exact .inl h
  ·exact .inr ⟨_,h,by have:=a1.out.size;have:=a5.out;omega⟩
theorem oN {xs:List Value}{s:ByteArray}{b:Bool}{t:TypeId}(HI:Calls Tryz.prog 34 #[.pointer (some ⟨g,0,none⟩)] w fun e w'=>e =.returned (.iface 87 (.pointer (some ⟨gt,0,none⟩)))/\∃m,w'=w.drewN m)
  (h:w.heap[gt]?=some (.cells #[.slice A n c,.string s,.bool b] 90 (0,0))) (ho:w.ownsRow base 97 2 (.slice A n c) n xs) (hb:base<=w.heap.size) (hl:n<=1000000000) :
  Calls Tryz.prog 36 #[.pointer (some ⟨g,0,none⟩),.iface t x] w fun e w'=>e =.returned (.tuple #[])/\∃m,vg (w.drewN m) base gt A c n s xs (.iface t x) w':=by
 have HA:=Qa (fun m=>qn (w:=w.drewN m) (t:=t) (x:=x) h ho hb hl);clear h ho hb hl;go_enter Tryz.func36,Tryz.ntmps36;go_wp2_with fail;refine HI.mono ?_;rintro e w1 ⟨rfl,m,rfl⟩;have a0:=Qa (HA.out m);go_wp2_with fail;refine Za a0 ?_;rintro e w2 ⟨rfl,hr⟩;go_wp2_with fail;(try simp only[Exit.inBlock,Exit.then]);refine Zh (results_none rfl ..) rfl ?_;exact⟨rfl,m,hr⟩
theorem qU {s:Value}{K:Nat->World->Prop}(h:w.heap[gr]?=some (.cells #[v,s,.bool false] 90 (0,0)))(hv:v.oneCell'=true)
  (H:Calls Tryz.prog 43 #[v] w fun e w'=> ∃gl,e =.returned (.tuple #[.pointer (some ⟨gl,0,none⟩),.nilIface])/\K gl w') :
  Calls Tryz.prog 299 #[.pointer (some ⟨gr,0,none⟩)] w fun e w'=> ∃gl,e =.returned (.tuple #[.iface 116 (.pointer (some ⟨gl,0,none⟩)),.bool true])/\∃w1 m,K gl w1/\w'=w1.drewN m:=by
 have c0:=aa h (j:=0) (u:=v) rfl;have c2:=aa h (j:=2) (u:=.bool false) rfl;have H0:=Qa H;clear h H;go_enter Tryz.func299,Tryz.ntmps299;go_wp2_with fail;refine Za H0 ?_;rintro e w1 ⟨gl,rfl,hk⟩;have Hk:=Qa hk;clear hk;go_wp2_with fail;go_quiet (fail);go_wp2_with fail;go_ret2;exact⟨gl,rfl,w1,_,Hk.out,rfl⟩
section
variable {B g c:Nat}{w w':World}{bs:List Nat}{A:Option Addr}{dv u:Value}{f:Fr}{fs frs:List Fr}{done:Option JV}{m:Nat×Value}{us:List (Value×Nat×Value)}
theorem kn.in_top (h:kn B w g (f::fs) done A c dv ((u,m)::us) bs)(hl:fs.length<1000000000):Calls Tryz.prog 34 #[.pointer (some ⟨g,0,none⟩)] w fun e w'=>e =.returned u/\∃m,w'=w.drewN m:=by
 have a0:us.length=fs.length:=by simpa using h.frames.1
 rcases bN h.own with ⟨_,e,_⟩|⟨gr,cap,e,h1,h2,h3⟩
 ·simp at e
 ·obtain⟨rfl,-,rfl⟩:=Value.slice.inj e;have hr:=h.row;rw[List.length_cons] at hr;refine B6 (n:=us.length) hr (by omega) ?_;rw[World.ownsRow.cellAt h.own us.length (by simp)];rw[List.map_cons,List.reverse_cons,List.getElem?_append_right (by simp)];simp
def Iu (frs:List Fr)(done:Option JV):Bool:=match frs with | []=>done.isNone|f::_=> !f.obj||f.name.isSome
theorem nE (h:uc B w g frs done bs)(hl:frs.length<=1000000000):Calls Tryz.prog 33 #[.pointer (some ⟨g,0,none⟩)] w fun e w'=>e =.returned (.bool (Iu frs done))/\Below w.heap.size w w':=by
 obtain⟨A,c,dv,us,h⟩:=h
 cases frs with
 |nil=>
  obtain⟨rfl,rfl⟩:=h.empty;have hr:=h.row
  cases done with
  |none=>rw[show dv =.nilIface from h.done] at hr;exact te hr
  |some j=>obtain⟨t,x,rfl⟩:=VW.iface h.done;exact tA hr
 |cons f fs=>
  obtain⟨u,m,us,rfl,hw,-⟩:=h.innermost;have hin:=(h.in_top (by simp at hl;omega)).mono (R':=fun e w'=>e =.returned u/\Below w.heap.size w w') (by rintro e w' ⟨rfl,k,rfl⟩;exact⟨rfl,av (Ze _ _) k⟩)
  cases hw with
  |row g' A' c' us' its h1 h2 h3 h4=>exact vJ hin
  |table g' A' c' L ms s nm h1 h2 h3 h4 h5 h6=>exact qp h2 hin
def Kc (B g:Nat)(c:dl)(w:World)(e:Ending)(w':World):Prop:=e =.returned (.tuple #[])/\wW B w w'/\∃bs',uc B w' g c.frs c.done bs'
def JJ (f:Fr):Prop:=f.items.length<=1000000000/\f.mems.length<=1000000000
theorem lP (h:uc B w g frs none bs)(ht:Iu frs none=true)(hv:VW (Pb B bs) w v j)(hB:B<=w.heap.size)(hl:frs.length<=1000000000)(hi:∀f∈frs,JJ f) :
  Calls Tryz.prog 36 #[.pointer (some ⟨g,0,none⟩),v] w (Kc B g (cV frs j) w):=by
 obtain⟨A,c,dv,us,h⟩:=h
 cases frs with
 |nil=>
  obtain⟨rfl,rfl⟩:=h.empty;obtain⟨ap1,ap2⟩:=h.apart;have hr:=h.row;rw[show dv =.nilIface from h.done] at hr;obtain⟨t,x,rfl⟩:=VW.iface hv;refine(qu hr rfl).mono ?_;rintro e w' ⟨rfl,h1,hc⟩;have hm:Mw [] w w':=Mw.of_chg hc fun k hk _=>.inr (by subst hk;exact⟨_,_,_,h.row,gS⟩)
  refine⟨rfl,.chg hc hB (fun i e=>by subst e;exact⟨h.low,_,_,_,h.row,.inr (.inl rfl)⟩), [],A,c,.iface t x, [],h1,h.low,bw h.own fun b hb=>?_,⟨rfl,fun i a b h=>by simp at h⟩,rfl,List.nodup_nil,?_⟩
  ·obtain⟨_,cur,h3⟩:=aj h.own hb;exact hc.block b (ae h3) (ap2 b hb).2
  ·exact VW.move hv hm.mv (by simp) (fun g hg=>.inl hg)
 |cons f fs=>
  obtain⟨u,m,us,rfl,hw,-⟩:=h.innermost;have hin:=h.in_top (by simp at hl;omega);obtain⟨a5,a4⟩:=hi f (by simp);obtain⟨t,x,rfl⟩:=VW.iface hv;have a2:=fun k (hk:k∈dD m)=>hw.typed hk
  cases hw with
  |row g' A' c' us' its h1 h2 h3 h4=>
   have a3:us'.length=its.length:=h4.1;refine(uW (t:=t) (x:=x) hin h2 h3 hB (by simp only at a5;omega) (fun b hb e=>aK h3 h2 (by decide) (by rw[hb,e]))).mono ?_;rintro e w' ⟨rfl,k,A5,q5,r1,r2,r3,r4⟩;have hc:aZ (fun k=>k=g'\/(Value.slice A' us'.length c').ownBlock=some k) w w':=(aZ.of_below (av (Ze _ _) k)).trans r3 (fun i hi=>.inl hi);have hF:∀k,(k=g'\/(Value.slice A' us'.length c').ownBlock=some k)->k∈dD (g',.slice A' us'.length c'):=fun k hk=>by simpa [dD] using hk
   obtain⟨bs',hs⟩:=h.swap (w':=w') (m':=(g',.slice A5 (us'.length+1) q5)) (f':=⟨false,its ++ [j], [],none⟩) hc hF (fun k hk=>by
     simp only[dD,List.mem_cons,Option.mem_toList] at hk ⊢;rcases hk with hk|hk
     ·exact .inl (.inl hk)
     ·rcases r4 with r4|⟨b,r4,r5⟩
      ·exact .inl (.inr (by rw[<-r4];exact hk))
      ·rw[r4] at hk;exact .inr (by rw[<-Zi hk];exact r5)) (by
     have hne:=aK r2 r1 (by decide);refine List.nodup_cons.2 ⟨fun hk=>hne (by simpa using hk),?_⟩
     cases (Value.slice A5 (us'.length+1) q5).ownBlock <;> simp) (fun bs2 hm a1 a0=>by
     have:=k7.row (P:=Pb B bs2) (B:=B) (w:=w') g' A5 q5 (us' ++ [.iface t x]) (its ++ [j]) h1 (by rw[List.length_append];exact r1) (by rw[List.length_append];exact r2) ((h4.mono fun _ _ h=>h.move hm.mv a0 a1).snoc (hv.move hm.mv a0 a1));rw[List.length_append] at this;exact this)
   exact⟨rfl,.chg hc hB (fun i e=>by obtain⟨q1,cs,t,z,q2,q3⟩:=a2 i (hF i e);exact⟨q1,cs,t,z,q2,.inl q3⟩),bs',_,_,_,_,hs⟩
  |table g' A' c' L ms s nm h1 h2 h3 h4 h5 h6=>
   obtain⟨sn,rfl⟩:∃sn,nm=some sn:=Option.isSome_iff_exists.1 (by simpa [Iu] using ht);obtain rfl:=h6 sn rfl;have a3:L.length=ms.length:=by have:=congrArg List.length h4;simpa using this
   refine(oN (t:=t) (x:=x) hin h2 h3 hB (by simp only at a4;omega)).mono ?_;rintro e w' ⟨rfl,k,A5,q5,r1,r2,r3,r4⟩;have hc:aZ (fun k=>k=g'\/(Value.slice A' L.length c').ownBlock=some k) w w':=(aZ.of_below (av (Ze _ _) k)).trans r3 (fun i hi=>.inl hi);have hF:∀k,(k=g'\/(Value.slice A' L.length c').ownBlock=some k)->k∈dD (g',.slice A' L.length c'):=fun k hk=>by simpa [dD] using hk
   obtain⟨bs',hs⟩:=h.swap (w':=w') (m':=(g',.slice A5 (L.length+1) q5)) (f':=⟨true, [],ms ++ [(s,j)],none⟩) hc hF (fun k hk=>by
     simp only[dD,List.mem_cons,Option.mem_toList] at hk ⊢;rcases hk with hk|hk
     ·exact .inl (.inl hk)
     ·rcases r4 with r4|⟨b,r4,r5⟩
      ·exact .inl (.inr (by rw[<-r4];exact hk))
      ·rw[r4] at hk;exact .inr (by rw[<-Zi hk];exact r5)) (by
     have hne:=aK r2 r1 (by decide);refine List.nodup_cons.2 ⟨fun hk=>hne (by simpa using hk),?_⟩
     cases (Value.slice A5 (L.length+1) q5).ownBlock <;> simp) (fun bs2 hm a1 a0=>by
     have a6:fI (L ++ [(s,.iface t x)])=fI L ++ [.string s,.iface t x]:=by simp[fI]
     have:=k7.table (P:=Pb B bs2) (B:=B) (w:=w') g' A5 q5 (L ++ [(s,.iface t x)]) (ms ++ [(s,j)]) s none h1 (by rw[List.length_append];exact r1) (by unfold vD;rw[List.length_append,a6];exact r2) (by rw[List.map_append,List.map_append,h4];rfl) (by
      rw[List.map_append,List.map_append];exact(h5.mono fun _ _ h=>h.move hm.mv a0 a1).snoc (hv.move hm.mv a0 a1)) (fun t e=>by cases e)
     rw[List.length_append] at this;exact this)
   exact⟨rfl,.chg hc hB (fun i e=>by obtain⟨q1,cs,t,z,q2,q3⟩:=a2 i (hF i e);exact⟨q1,cs,t,z,q2,.inl q3⟩),bs',_,_,_,_,hs⟩
end
section
variable {B g c:Nat}{w:World}{bs:List Nat}{A:Option Addr}{dv u:Value}{f:Fr}{frs:List Fr}{us:List (Value×Nat×Value)}
theorem kn.push (h:kn B w g frs none A c dv us bs){gN q5:Nat}{A5:Option Addr}(hB:B<=w.heap.size)(h2:Below w.heap.size w w2)(hN:w.heap.size<=gN)(a1:gN<w2.heap.size)(hg:w2.grownBy w5 (Value.slice A us.length c).ownBlock)
  (a0:w5.ownsRow B 93 1 (.slice A5 (us.length+1) q5) (us.length+1) ((us.map Prod.fst).reverse ++ [u])) (hf:∀P w',w'.heap[gN]?=w2.heap[gN]?->k7 P B w' u f (gN,.slice none 0 0)) :
  wW B w (w5.setCell ⟨g,0,none⟩ (.slice A5 (us.length+1) q5))/\kn B (w5.setCell ⟨g,0,none⟩ (.slice A5 (us.length+1) q5)) g (f::frs) none A5 q5 dv ((u,gN,.slice none 0 0)::us) (gN::bs):=by
 obtain⟨ap1,ap2⟩:=h.apart;have a5:=ae h.row;have a4:gN≠g:=by omega
 have hob:∀b,(Value.slice A us.length c).ownBlock=some b->b<w.heap.size:=fun b hb=>by obtain⟨_,cur,h3⟩:=aj h.own hb;exact ae h3
 have hc:aZ (fun k=>k=g\/(Value.slice A us.length c).ownBlock=some k) w (w5.setCell ⟨g,0,none⟩ (.slice A5 (us.length+1) q5)):=((aZ.of_below h2).trans (aZ.grown hg) (fun i hi=>.inl (.inr hi))).trans (aZ.set g 0 _) (fun i hi=>.inl (.inl hi));have hm:Mw [] w (w5.setCell ⟨g,0,none⟩ (.slice A5 (us.length+1) q5)):=Mw.of_chg hc fun k hk _=>.inr (by
  rcases hk with rfl|hk
  ·exact⟨_,_,_,h.row,gS⟩
  ·obtain⟨_,cur,h3⟩:=aj h.own hk;exact⟨_,_,_,h3,yB⟩)
 have a3:(w5.setCell ⟨g,0,none⟩ (.slice A5 (us.length+1) q5)).heap[gN]?=w2.heap[gN]?:=(Below.heap_setCell _ ⟨g,0,none⟩ _ gN a4).trans (hg.block gN a1 (fun e=>by have:=hob gN e.symm;omega));have g5:w5.heap[g]?=some (.cells #[.slice A us.length c,dv] 83 (0,0)):=(hg.block g (Nat.lt_of_lt_of_le a5 h2.size) (fun e=>(ap2 g e.symm).2 rfl)).trans (ai h.row h2);have hne:=aK a0 g5 (by decide);have a2:∀k∈gN::bs,k∈bs\/w.heap.size<=k:=fun k hk=>by
  rcases List.mem_cons.1 hk with rfl|hk
  ·exact .inr hN
  ·exact .inl hk
 refine⟨.chg hc hB (fun i hi=>by
  rcases hi with rfl|hi
  ·exact⟨h.low,_,_,_,h.row,.inr (.inl rfl)⟩
  ·obtain⟨q1,cur,q2⟩:=aj h.own hi;exact⟨q1,_,_,_,q2,.inr (.inr rfl)⟩),au g5 0 _,h.low,?_,⟨by simpa using h.frames.1,fun i a b h1 h2=>?_⟩,?_,?_,h.done⟩
 ·refine bw ?_ fun b hb=>Below.heap_setCell w5 ⟨g,0,none⟩ _ b (fun e=>hne (by have h9:=hb;rw[show b=g from e] at h9;exact h9))
  rw[List.map_cons,List.reverse_cons];exact a0
 ·cases i with
  |zero=>
   simp only[List.getElem?_cons_zero,Option.some.injEq] at h1 h2;subst h1 h2;exact hf _ _ a3
  |succ i=>exact(h.frames.2 i a b (by simpa using h1) (by simpa using h2)).move hm (by simp) a2 (by simp)
 ·rw[List.flatMap_cons,h.blocks];rfl
 ·refine List.nodup_cons.2 ⟨fun hk=>?_,h.nodup⟩;have:=h.lt gN hk;omega
def Jt (B g:Nat)(frs:List Fr)(done:Option JV)(w:World)(e:Ending)(w':World):Prop:=e =.returned .nilIface/\wW B w w'/\∃bs',uc B w' g frs done bs'
end
