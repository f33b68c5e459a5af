import Derived.Test.YtimbegpgemkpkaaGreatDoorGZ7ac
import Derived.Lib.ConvBytes
set_option linter.unusedVariables false
set_option linter.unusedSimpArgs false
set_option maxHeartbeats 64000000
set_option maxRecDepth 100000
namespace Go.Proofs.YtimbegpgemkpkaaGreatDoor
open Go.Proofs.Tryz
variable {cs:Array Value}{c4:Int}{j:JV}{ns:List Nc}{y:List Int}{ts:List JV}{so:List Nat}{xs:Na}{us vs:Nb}{B N at4 at_ base g i k1 k2 k4 lo n q q6 rb:Nat}{P:Nat->Prop}{A A6:OA}{e:TypeId}{T:TypeId->Prop}{v vk vn z:Value}{W W' W2 w w' w1 w2 wx:Wd}
theorem wL (a:Nat)(h:so.Perm (List.range i)):(so.take a ++ [i]++so.drop a).Perm (List.range (i+1)):=by
 rw[List.range_succ];refine List.Perm.trans ?_ (h.append_right [i]);rw[List.append_assoc];refine(List.perm_append_comm_assoc (so.take a) [i] (so.drop a)).trans ?_;refine List.Perm.trans ?_ (List.perm_append_comm);rw[List.take_append_drop]
theorem xJ {f:Nat->Nc}{a:Nat}(hp:(so.map f).Pairwise gH)(h1:∀j x,j<a->so[j]?=some x->gH (f x) (f i))(h2:∀x,so[a]?=some x->gH (f i) (f x)) :
  ((so.take a ++ [i]++so.drop a).map f).Pairwise gH:=by
 have a0:=hp;rw[<-List.take_append_drop a so,List.map_append,List.pairwise_append] at a0;obtain⟨p1,p2,p3⟩:=a0;have hd:∀y∈so.drop a,gH (f i) (f y):=by
  intro y hy
  cases hx:so[a]? with
  |none=>
   have:so.length<=a:=List.getElem?_eq_none_iff.1 hx;rw[List.drop_eq_nil_of_le this] at hy
   cases hy
  |some x=>
   obtain⟨hlt,a3⟩:=List.getElem?_eq_some_iff.1 hx;rw[List.drop_eq_getElem_cons hlt,a3] at hy p2;rcases List.mem_cons.1 hy with rfl|hy
   .exact h2 _ hx
   .rw[List.map_cons,List.pairwise_cons] at p2;exact iC (h2 x hx) (p2.1 _ (List.mem_map_of_mem hy))
 have ht:∀y∈so.take a,gH (f y) (f i):=by
  intro y hy;obtain⟨j,hj,rfl⟩:=List.getElem_of_mem hy;have a1:j<a/\j<so.length:=by rw[List.length_take] at hj;omega
  refine h1 j _ a1.1 ?_;rw[List.getElem_take,Zd a1.2]
 rw[List.map_append,List.map_append,List.pairwise_append,List.pairwise_append];refine⟨⟨p1,by simp,?_⟩,p2,?_⟩
 .intro x hx y hy;obtain⟨x',a4,rfl⟩:=List.mem_map.1 hx;simp at hy;subst hy;exact ht _ a4
 .intro x hx y hy;obtain⟨y',a2,rfl⟩:=List.mem_map.1 hy;rcases List.mem_append.1 hx with hx|hx
  .exact p3 x hx _ hy
  .simp at hx;subst hx;exact hd _ a2
def d0:Nc×JV:=(⟨#[]⟩,.mk 0 false ⟨#[]⟩ ⟨false,⟨#[]⟩,0⟩ [] [])
def fM (names:List Nc)(ts:List JV)(k:Nat):Nc×JV:=(names.zip ts).getD k d0
theorem jW {α:Type}(l:List α)(d:α):(List.range l.length).map (fun k=>l.getD k d)=l:=by
 apply List.ext_getElem
 .simp
 .intro i h1 h2;simp[List.getD_eq_getElem?_getD,Zd h2]
theorem Af {names:List Nc}(h:so.Perm (List.range (names.zip ts).length)):(so.map (fM names ts)).Perm (names.zip ts):=by
 have:=h.map (fM names ts);unfold fM at this
 rwa[jW] at this
theorem DQ {names:List Nc}(hl:names.length=ts.length){k:Nat}(hk:k<names.length):(fM names ts k).1=names.getD k ⟨#[]⟩:=by
 unfold fM;rw[List.getD_eq_getElem?_getD,List.getD_eq_getElem?_getD,Zd (by simp;omega),Zd hk];simp
theorem D3 {names:List Nc}(hl:names.length=ts.length){k:Nat}{t:JV}(hk:ts[k]?=some t):(fM names ts k).2=t:=by
 obtain⟨h1,h2⟩:=List.getElem?_eq_some_iff.1 hk;unfold fM;rw[List.getD_eq_getElem?_getD,Zd (by simp;omega)];simp[h2]
theorem As (h:ns.Pairwise gH):ns.Nodup:=h.imp (fun h=>pl h)
theorem uN {names:List Nc}(h:so.Perm (List.range names.length))(hr:(so.map (fun k=>names.getD k ⟨#[]⟩)).Pairwise gH):names.Nodup:=by
 have h1:=h.map (fun k=>names.getD k (⟨#[]⟩:Nc));rw[jW] at h1;exact h1.nodup_iff.1 (As hr)
theorem CI {names:List Nc}(h:names.Nodup){j:Nat}{s:Nc}(hi:names[i]?=some s)(hj:names[j]?=some s):i=j:=by
 obtain⟨h1,h2⟩:=List.getElem?_eq_some_iff.1 hi;obtain⟨h3,h4⟩:=List.getElem?_eq_some_iff.1 hj;exact(List.getElem_inj h).1 (h2.trans h4.symm)
def mJ (names:List Nc)(ts:List JV)(ps:List (Nc×JV)):Prop:=ps.Perm (names.zip ts)/\ix (ps.map Prod.fst)
theorem mJ.sizes {names:List Nc}{ps:List (Nc×JV)}(hl:names.length=ts.length)(h:mJ names ts ps):JV.sizes (ps.map Prod.snd)=JV.sizes ts/\(ps.map Prod.snd).Perm ts/\(ps.map Prod.fst).Perm names:=by
 have h1:(ps.map Prod.snd).Perm ts:=by have:=h.1.map Prod.snd;rwa[List.map_snd_zip (by omega)] at this
 have h2:(ps.map Prod.fst).Perm names:=by have:=h.1.map Prod.fst;rwa[List.map_fst_zip (by omega)] at this
 refine⟨?_,h1,h2⟩;have hs:∀l m:List JV,l.Perm m->JV.sizes l=JV.sizes m:=by
  intro l m hp
  induction hp with
  |nil=>rfl
  |cons x _ ih=>simp[JV.sizes,ih]
  |swap x y l=>simp[JV.sizes];omega
  |trans _ _ ih1 ih2=>exact ih1.trans ih2
 exact hs _ _ h1
def FT (n:Nat)(f:Nat->Nat):Nat×Nat:=
 if f 0<128 then(f 0,1)
 else if f 0/32=6/\(1<n/\f 1/64=2) then(if(f 0 % 32)*64+f 1 % 64 ≥ 128 then((f 0 % 32)*64+f 1 % 64,2) else(65533,1))
 else if(f 0/16=14/\(1<n/\f 1/64=2))/\(2<n/\f 2/64=2) then
  (if(f 0 % 16)*4096+ (f 1 % 64)*64+f 2 % 64 ≥ 2048/\Utf8.valid (((f 0 % 16)*4096+ (f 1 % 64)*64+f 2 % 64:Nat):Int)=true then((f 0 % 16)*4096+ (f 1 % 64)*64+f 2 % 64,3) else(65533,1))
 else if((f 0/8=30/\(1<n/\f 1/64=2))/\(2<n/\f 2/64=2))/\(3<n/\f 3/64=2) then
  (if(f 0 % 8)*262144+ (f 1 % 64)*4096+ (f 2 % 64)*64+f 3 % 64 ≥ 65536/\Utf8.valid (((f 0 % 8)*262144+ (f 1 % 64)*4096+ (f 2 % 64)*64+f 3 % 64:Nat):Int)=true then((f 0 % 8)*262144+ (f 1 % 64)*4096+ (f 2 % 64)*64+f 3 % 64,4) else(65533,1))
 else(65533,1)
theorem zU (s:Nc)(i k:Nat):(s.get! (i+k)).toNat=ar (s.data.toList.drop i) k:=by
 rw[jG];unfold ar
 show(s.data[i+k]!).toNat=_
 rw[List.getD_eq_getElem?_getD,Array.getElem?_toList,getElem!_def]
 cases s.data[i+k]? <;> rfl
theorem xX (s:Nc)(i:Nat):Utf8.decode s i=FT (s.data.toList.drop i).length (ar (s.data.toList.drop i)):=by
 have hn:∀k,(i+k<s.size)= (k< (s.data.toList.drop i).length):=by
  intro k;rw[List.length_drop,Array.length_toList];show(i+k<s.data.size)=_;exact propext ⟨fun h=>by omega,fun h=>by omega⟩
 unfold Utf8.decode FT;simp only[zU,hn,Utf8.runeError,Bool.and_eq_true,decide_eq_true_eq,beq_iff_eq,and_assoc]
theorem mS (n:Nat):Utf8.valid (n:Int)=true↔n<=1114111/\¬ (55296<=n/\n<=57343):=by
 unfold Utf8.valid;simp;omega
theorem Ft (h0:xs≠ []):FT xs.length (ar xs)=if(bK xs).2.2=0 then((bK xs).1,(bK xs).2.1) else(65533,1):=by
 by_cases hd:(bK xs).2.2=0
 .rw[if_pos hd];rcases mH hd with ⟨a,t,rfl,h1,e⟩|⟨a,b,t,rfl,h1,hs,e⟩|⟨a,b,c,t,rfl,h1,hs,ht,e⟩|⟨a,b,c,d,t,rfl,h1,hs,ht,a1,e⟩ <;> rw[e] <;> unfold FT <;> simp only[mS]
  .rw[vb,if_pos h1]
  .unfold jX at hs;have hb:=b8 b;rw[vb,jy,if_neg (by omega),if_pos ⟨by omega,by simp,by omega⟩,if_pos (by omega)]
  .unfold jX at hs;unfold tl at ht;have hb:=b8 b;have hc:=b8 c;rw[vb,jy,lP,if_neg (by omega),if_neg (by omega),if_pos ⟨⟨by omega,by simp,by omega⟩,by simp,by omega⟩,if_pos (by omega)]
   congr 1;omega
  .unfold jX at hs;unfold tl at ht a1;have hb:=b8 b;have hc:=b8 c;have a0:=b8 d;rw[vb,jy,lP,Kw,if_neg (by omega),if_neg (by omega),if_neg (by omega),if_pos ⟨⟨⟨by omega,by simp,by omega⟩,by simp,by omega⟩,by simp,by omega⟩,if_pos (by omega)]
   congr 1;omega
 .rw[if_neg hd];unfold FT;simp only[mS]
  cases xs with
  |nil=>exact absurd rfl h0
  |cons a t=>
   have ha:=b8 a
   by_cases h1:a.toNat<128
   .exact absurd (by rw[zB a t h1]) hd
   rw[vb,if_neg h1]
   split
   .rename_i h2
    split
    .rename_i h3
     cases t with
     |nil=>simp at h2
     |cons b t=>
      rw[jy] at h2 h3;have hb:=b8 b;exact absurd (by rw[yY a (b::t) (by omega)];simp only;rw[if_pos (by unfold jX;omega)]) hd
    .rfl
   .split
    .rename_i h2
     split
     .rename_i h3
      rcases t with _|⟨b,_|⟨c,t⟩⟩
      .simp at h2
      .simp at h2
      .rw[jy,lP] at h2 h3;have hb:=b8 b;have hc:=b8 c;exact absurd (by rw[yT a (b::c::t) (by omega)];simp only;rw[if_pos (by unfold jX;omega),if_pos (by unfold tl;omega)]) hd
     .rfl
    .split
     .rename_i h2
      split
      .rename_i h3
       rcases t with _|⟨b,_|⟨c,_|⟨d,t⟩⟩⟩
       .simp at h2
       .simp at h2
       .simp at h2
       .rw[jy,lP,Kw] at h2 h3;have hb:=b8 b;have hc:=b8 c;have a0:=b8 d;exact absurd (by rw[zn a (b::c::d::t) (by omega)];simp only;rw[if_pos (by unfold jX;omega),if_pos (by unfold tl;omega),if_pos (by unfold tl;omega)]) hd
      .rfl
     .rfl
theorem pD (s:Nc)(i:Nat)(h:i<s.size):Utf8.decode s i=if(bK (s.data.toList.drop i)).2.2=0 then((bK (s.data.toList.drop i)).1,(bK (s.data.toList.drop i)).2.1) else(65533,1):=by
 rw[xX];apply Ft;intro e;have:=congrArg List.length e;rw[List.length_drop,Array.length_toList] at this;have:s.size=s.data.size:=rfl;simp at *;omega
theorem E2:bL ((65533:Nat):Int) = [239,191,189]:=by rw[pY 65533 (by omega) (by omega)];rfl
open Go.RowKit
theorem _root_.Go.World.ownsRow.below' {k:Nat}{xs:Nb}(h:w.ownsRow base e k v n xs)(hb:ge w w'):w'.ownsRow base e k v n xs:=aq h hb (Zb _)
theorem jd (W:Wd)(s:Nc)(hs:s.size<=9223372036854775807):∃W2 cap,(convert 9 30 s).run prog W =.ok (.slice (some (nl W.heap.size)) s.size cap) W2/\
  ge W W2/\Bs W2 (.slice (some (nl W.heap.size)) s.size cap) s.data.toList:=by
 refine⟨Lib.bytesWorld W 5 s,grownCap W s.size 0 5,Lib.run_convert_string_bytes W 9 30 5 s underlying9 underlying30 underlying5,?_,?_⟩
 .exact⟨rfl,rfl,rfl,by rw[Lib.bytesWorld_size];omega,fun k hk=>Lib.bytesWorld_at_old _ _ _ _ hk⟩
 .have hl:s.data.toList.length=s.size:=by simp
  refine⟨by omega,_,_,by rw[hl],by rw[hl];exact grownCap_ge _ _ _ _,fun _=>⟨_,0,rfl,fun i hi=>?_⟩⟩;rw[Nat.zero_add];exact Lib.bytesWorld_cell W 5 s i (by omega)
theorem mI:dH 211 21 (.int .i32 0) 1 4:=⟨underlying211,by kernel_rfl,rfl,by decide⟩
def fP (c:Int):Value:=.int .i32 c
def rR (w:Wd)(base:Nat)(v:Value)(l:List Int):Prop:=w.ownsRow base 21 1 v l.length (l.map fP)
def eE (_:UInt8):Int:= -1
def F5 (w:Wd)(s:Nc)(e:Ending)(w':Wd):Prop:= ∃A n q,e =.returned (.slice A n q)/\ge w w'/\rR w' w.heap.size (.slice A n q) (bj eE s.data.toList)
def Js (w:Wd)(xs:Na)(s3 s4:Value)(wr:Wd):Prop:= ∃ (ys:Na) (A:OA) (c:Nat) (pre:List Int),s4 =.slice A ys.length c/\Bs w (.slice A ys.length c) ys/\bj eE xs=pre++bj eE ys/\pre.length+ys.length<=xs.length/\ge w wr/\rR wr w.heap.size s3 pre
theorem iT (w:Wd)(s:Nc)(hs:s.size<=4000000):Calls prog 170 #[s] w (F5 w s):=by
 obtain⟨W2,cap,b5,c4,b9⟩:=jd w s (by omega);have hl:s.data.toList.length=s.size:=by simp
 rw[<-hl] at b5 b9 hs;unfold F5;generalize s.data.toList=xs at *;have b8:=Qa c4;have Hbs:=Qa b9;clear c4 b9 hl;go_in;go_wp2_with fail
 go_loopw [3,4,5,6,7,13] (fun s3 s4 _ _ _ _ wr=>Js W2 xs s3 s4 wr) (fun _ v _ _ _ _ _=>match v with | .slice _ n _=>n|_=>0)
 case atStart=>exact⟨xs,_,_, [],rfl,Hbs,rfl,by simp,Ze _ _,rfl,.inl ⟨rfl,rfl⟩⟩
 case round=>
  obtain⟨ys,A,c,pre,rfl,hb,he,hlen,b1,ho⟩:=hrel;obtain⟨hm,_,_,e',c6,a6⟩:=id hb;injection e' with e1 e2 e3
  subst e1 e3;have Hb:=Qa hb;have He:=Qa he;have a5:=Qa b1;have Ho:=Qa ho;have a0:=b1.size;clear hb he b1 ho e2
  by_cases h0:0<ys.length
  .obtain⟨b,o,rfl,-⟩:=a6 h0;have hlt:(0:Int)<ys.length:=by omega
   clear a6;go_wp2_with fail;refine(oX (Hb.below a5)).mono ?_;rintro e w3 ⟨⟨code,rfl,a2⟩,c0⟩;have b6:=Qa c0;have a1:=c0.size;clear c0;have hne:ys≠ []:=by intro e;subst e;simp at h0
   have b4:=Qa (fun (k:Nat) (hk:k<=ys.length)=>Hb.cut hk)
   by_cases hz:(bK ys).2.2=0
   .have c5:code=0:=a2.2 hz;subst c5;have c7:1<=(bK ys).2.1:=fp hz;have c1:(bK ys).2.1<=ys.length:=mz ys;have a3:=Qa (show bj eE xs= (pre ++ [((bK ys).1:Int)])++bj eE (ys.drop (bK ys).2.1) by rw[He.out,dK hne hz];simp);clear a2 hz;generalize (bK ys).1=ch at *;generalize (bK ys).2.1=nn at *;have b3:=Qa (au w3 [fP (ch:Int)] 21);have a4:=Qa ((aq Ho b6 (Zb _)).below' (aa w3 (.cells #[.int .i32 (ch:Int)] 21)));have b2:=Qa (a5.trans (b6.mono a0));have b0:=Qa (b4 nn c1)
    by_cases hcn:c=nn
    .have b7:(c==nn)=true:=by simpa using hcn
     go_wp2_with (at_builtin;refine ir mI a4.out b3.out (by simp;omega) ?_ (h1:=(by simp[fP,Value.oneCell']));intro v' w5 p1 p2 p3;have a7:=Qa p1;have a9:=Qa p2;clear p1 p2 p3);refine⟨⟨ys.drop nn,_,_,pre ++ [(ch:Int)],by rw[List.length_drop],by rw[List.length_drop];exact⟨by rw[List.length_drop];omega,_,_,by rw[List.length_drop],by rw[List.length_drop];omega,fun h=>absurd h (by rw[List.length_drop];omega)⟩,a3.out,by rw[List.length_drop];simp;omega,aD (b2.alloc (Zc a0 a1) _) a4.out (Zc (Zc a0 a1) (by simp)) a9.out,by unfold rR;rw[List.length_append,List.map_append];exact a7.out⟩,?_⟩
     show ys.length - nn<ys.length
     omega
    .go_wp2_with (at_builtin;refine ir mI a4.out b3.out (by simp;omega) ?_ (h1:=(by simp[fP,Value.oneCell']));intro v' w5 p1 p2 p3;have a7:=Qa p1;have a9:=Qa p2;clear p1 p2 p3);refine⟨⟨ys.drop nn,_,_,pre ++ [(ch:Int)],by rw[List.length_drop],by rw[List.length_drop];exact b0.out,a3.out,by rw[List.length_drop];simp;omega,aD (b2.alloc (Zc a0 a1) _) a4.out (Zc (Zc a0 a1) (by simp)) a9.out,by unfold rR;rw[List.length_append,List.map_append];exact a7.out⟩,?_⟩
     show ys.length - nn<ys.length
     omega
   .have c3:bj eE ys= (-1)::bj eE (ys.drop 1):=by
     cases ys with
     |nil=>exact absurd rfl hne
     |cons x t=>rw[fg hz];rfl
    have c5:(code !=0)=true:=by
     have:code≠0:=fun h=>hz (a2.1 h)
     simpa using this
    have c7:1<=1:=Zb _;have c1:1<=ys.length:=h0;have a3:=Qa (show bj eE xs= (pre ++ [(-1:Int)])++bj eE (ys.drop 1) by rw[He.out,c3];simp);clear a2 hz hne c3;have b3:=Qa (au w3 [fP (-1)] 21);have a4:=Qa ((aq Ho b6 (Zb _)).below' (aa w3 (.cells #[.int .i32 (-1)] 21)));have b2:=Qa (a5.trans (b6.mono a0));have b0:=Qa (b4 1 c1)
    by_cases hcn:c=1
    .have b7:(c==1)=true:=by simpa using hcn
     go_wp2_with (at_builtin;refine ir mI a4.out b3.out (by simp;omega) ?_ (h1:=(by simp[fP,Value.oneCell']));intro v' w5 p1 p2 p3;have a7:=Qa p1;have a9:=Qa p2;clear p1 p2 p3);refine⟨⟨ys.drop 1,_,_,pre ++ [(-1)],by rw[List.length_drop],by rw[List.length_drop];exact⟨by rw[List.length_drop];omega,_,_,by rw[List.length_drop],by rw[List.length_drop];omega,fun h=>absurd h (by rw[List.length_drop];omega)⟩,a3.out,by rw[List.length_drop];simp;omega,aD (b2.alloc (Zc a0 a1) _) a4.out (Zc (Zc a0 a1) (by simp)) a9.out,by unfold rR;rw[List.length_append,List.map_append];exact a7.out⟩,?_⟩
     show ys.length - 1<ys.length
     omega
    .go_wp2_with (at_builtin;refine ir mI a4.out b3.out (by simp;omega) ?_ (h1:=(by simp[fP,Value.oneCell']));intro v' w5 p1 p2 p3;have a7:=Qa p1;have a9:=Qa p2;clear p1 p2 p3);refine⟨⟨ys.drop 1,_,_,pre ++ [(-1)],by rw[List.length_drop],by rw[List.length_drop];exact b0.out,a3.out,by rw[List.length_drop];simp;omega,aD (b2.alloc (Zc a0 a1) _) a4.out (Zc (Zc a0 a1) (by simp)) a9.out,by unfold rR;rw[List.length_append,List.map_append];exact a7.out⟩,?_⟩
     show ys.length - 1<ys.length
     omega
  .have c2:ys.length=0:=by omega
   obtain rfl:ys = []:=List.eq_nil_of_length_eq_zero c2;clear h0 c2;go_wp2;go_ret;have h:=He.out;rw[j7,List.append_nil] at h;obtain⟨A3,q3,rfl,-⟩:=ai Ho.out;exact⟨A3,pre.length,q3,rfl,b8.trans (a5.mono b8.size),by rw[h];exact bT Ho.out b8.size⟩
def qT (s:Nc):List Int:=bj eE s.data.toList
theorem EU {s:Nc}(h:gG s.data.toList):qT s=nm s:=qI h
theorem rJ {x:List Int}{k:Nat}(h:aA x y=aA (x.drop k) (y.drop k)){a b:Int}(ha:x[k]?=some a)(hb:y[k]?=some b)(he:a=b):aA x y=aA (x.drop (k+1)) (y.drop (k+1)):=by
 subst he;obtain⟨h1,a1⟩:=List.getElem?_eq_some_iff.1 ha;obtain⟨h2,a0⟩:=List.getElem?_eq_some_iff.1 hb;rw[h,List.drop_eq_getElem_cons h1,List.drop_eq_getElem_cons h2,a1,a0];rw[aA,if_neg (by omega),if_neg (by omega)]
theorem By {x:List Int}{k:Nat}(h:aA x y=aA (x.drop k) (y.drop k)){a b:Int}(ha:x[k]?=some a)(hb:y[k]?=some b)(he:a≠b):decide (aA x y<0)=decide (a<b):=by
 obtain⟨h1,a1⟩:=List.getElem?_eq_some_iff.1 ha;obtain⟨h2,a0⟩:=List.getElem?_eq_some_iff.1 hb;rw[h,List.drop_eq_getElem_cons h1,List.drop_eq_getElem_cons h2,a1,a0,aA]
 by_cases hlt:a<b
 .simp[hlt]
 .rw[if_neg hlt,if_pos (by omega)];simp[hlt]
theorem uJ {x:List Int}{k:Nat}(h:aA x y=aA (x.drop k) (y.drop k))(hk:k<=x.length/\k<=y.length)(he:¬ (k<x.length/\k<y.length)):decide (aA x y<0)=decide (x.length<y.length):=by
 rw[h]
 by_cases h1:k<x.length
 .have h2:y.length<=k:=by omega
  rw[List.drop_eq_getElem_cons h1,List.drop_eq_nil_of_le h2,aA];simp;omega
 .rw[List.drop_eq_nil_of_le (by omega:x.length<=k)]
  by_cases h2:k<y.length
  .rw[List.drop_eq_getElem_cons h2,aA];simp;omega
  .rw[List.drop_eq_nil_of_le (by omega:y.length<=k),aA];simp;omega
theorem gM (bad:UInt8->Int):∀ (n:Nat) (xs:Na),xs.length<=n->(bj bad xs).length<=xs.length
 |_, [],_=>Zb _
 |0,x::t,h=>by simp at h
 |n+1,x::t,h=>by
  simp only[List.length_cons] at h
  by_cases hd:(bK (x::t)).2.2=0
  .have hp:=fp hd;have:=gM bad n ((x::t).drop (bK (x::t)).2.1) (by rw[List.length_drop,List.length_cons];omega);rw[dK (by simp) hd];rw[List.length_drop] at this;simp only[List.length_cons] at this ⊢;omega
  .have:=gM bad n t (by omega);rw[fg hd];simp only[List.length_cons];omega
theorem oE {k:Nat}{xs:Nb}(h:w.ownsRow base e k (.slice A n q) N xs):n=N:=by
 obtain⟨_,_,e,_⟩:=ai h;injection e
theorem eb {k:Nat}{xs:Nb}(h:w.ownsRow base e k (.slice A n q) N xs)(h0:0<N):∃g,A=some (nl g):=by
 obtain⟨_,_,e,_,_,h'⟩:=ai h;injection e with e1 e2 e3;subst e1;exact h' h0
def li (x y:List Int):Bool:=decide (aA x y<0)
def I9 (w:Wd)(x y:List Int)(s7:Value)(wr:Wd):Prop:= ∃k:Nat,(k<=x.length/\k<=y.length)/\s7 =(k:Int)/\ge w wr/\aA x y=aA (x.drop k) (y.drop k)
theorem ue (w:Wd)(s t:Nc)(hs:s.size<=4000000)(ht:t.size<=4000000):Calls prog 217 #[s,t] w fun e w'=>e =.returned (.bool (li (qT s) (qT t)))/\ge w w':=by
 have hlx:(qT s).length<=4000000:=by have:=gM eE _ s.data.toList (Zb _);simp at this;unfold qT;omega
 have hly:(qT t).length<=4000000:=by have:=gM eE _ t.data.toList (Zb _);simp at this;unfold qT;omega
 go_in;go_wp2_with fail;refine(iT w s hs).mono ?_;rintro e w1 ⟨A1,n1,q1,rfl,b3,b2⟩;have a6:=Qa b3;have a0:=Qa b2;clear b3 b2;go_wp2_with fail;refine(iT w1 t ht).mono ?_;rintro e w2 ⟨A2,n2,q2,rfl,a7,b6⟩;have a0:=Qa (a0.below' a7);have a2:=Qa (a6.trans (a7.mono a6.size));have a3:=Qa b6;have e1:n1= (qT s).length:=oE a0.out;have e2:n2= (qT t).length:=oE a3.out;subst e1 e2;change Hid (rR w2 _ _ (qT s)) at a0;change Hid (rR w2 _ _ (qT t)) at a3;clear a7 b6 a6;obtain⟨x,a5⟩:=y7 (qT s);obtain⟨y,b0⟩:=y7 (qT t);rw[a5] at hlx a0 ⊢;rw[b0] at hly a3 ⊢;have a1:=Qa (show li (qT s) (qT t)=li x y by rw[a5,b0]);clear a5 b0;go_wp2_with fail
 go_loopw [7] (fun s7 wr=>I9 w2 x y s7 wr) (fun i _=>x.length - (intOf i).toNat)
 case atStart=>exact⟨0,by omega,rfl,Ze _ _,rfl⟩
 case round=>
  obtain⟨k,hk,rfl,hb,hc⟩:=hrel;have Hb:=Qa hb;have Hc:=Qa hc;have b5:=hk.1;have b4:=hk.2;clear hb hc hk
  by_cases hx:k<x.length
  .by_cases hy:k<y.length
   .have a4:=Qa (a0.below' Hb.out);have a9:=Qa (a3.below' Hb.out);obtain⟨g1,rfl⟩:=eb a0.out (by omega);obtain⟨g2,rfl⟩:=eb a3.out (by omega);obtain⟨a,ha⟩:∃s,x[k]?=some s:=⟨_,Zd hx⟩;obtain⟨b,hb⟩:∃s,y[k]?=some s:=⟨_,Zd hy⟩;have c1:=aB a4.out rfl k (by omega);have c2:=aB a9.out rfl k (by omega);rw[List.getElem?_map,ha] at c1;rw[List.getElem?_map,hb] at c2;simp only[Option.map_some,fP] at c1 c2;have Ha:=Qa ha;have b7:=Qa hb;have b1:(k:Int)<x.length:=by omega
    have b9:(k:Int)<y.length:=by omega
    clear ha hb
    by_cases he:a=b
    .have b8:(a !=b)=false:=by simp[he]
     have Hs:=Qa (rJ Hc.out Ha.out b7.out he);clear he;go_wp2_with fail;go_quiet (fail);go_wp2_with fail;exact⟨⟨k+1,by omega,by go_num,av Hb.out _,Hs.out⟩,by simp[intOf];omega⟩
    .have b8:(a !=b)=true:=by simp[he]
     have Hs:=Qa (By Hc.out Ha.out b7.out he);clear he;go_wp2_with fail;go_quiet (fail);go_wp2_with fail;go_quiet (fail);go_wp2;go_ret;exact⟨bP (Hs.symm.trans a1.symm),a2.trans ((av (av Hb _) _).mono a2.size)⟩
   .have b1:(k:Int)<x.length:=by omega
    have b9:¬ (k:Int)<y.length:=by omega
    have Hs:=Qa (uJ Hc.out ⟨b5,b4⟩ (by omega));go_wp2;go_ret;exact⟨bP (Hs.symm.trans a1.symm),a2.trans (Hb.mono a2.size)⟩
  .have b1:¬ (k:Int)<x.length:=by omega
   have Hs:=Qa (uJ Hc.out ⟨b5,b4⟩ (by omega));go_wp2;go_ret;exact⟨bP (Hs.symm.trans a1.symm),a2.trans (Hb.mono a2.size)⟩
def ql (names:List Nc)(k:Nat):Nc:=names.getD k ⟨#[]⟩
theorem gQ {names:List Nc}{k:Nat}{s:Nc}(h:names[k]?=some s):ql names k=s:=by unfold ql;rw[List.getD_eq_getElem?_getD,h];rfl
def Jc (w:Wd)(names:List Nc)(s6 s7:Value)(wr:Wd):Prop:= ∃ (i:Nat) (so:List Nat) (A:OA) (n q:Nat),i<=names.length/\s7 =(i:Int)/\s6 =.slice A n q/\bO wr w.heap.size s6 so/\n=i/\so.Perm (List.range i)/\ge w wr/\(so.map (ql names)).Pairwise gH
def Ln (w1:Wd)(names:List Nc)(so:List Nat)(i:Nat)(s8:Value)(wr:Wd):Prop:= ∃a:Nat,a<=so.length/\s8 =(a:Int)/\ge w1 wr/\∀j x,j<a->so[j]?=some x->gH (ql names x) (ql names i)
def Kl (w1:Wd)(names:List Nc)(so:List Nat)(i:Nat)(s8:Value)(wr:Wd):Prop:= ∃a:Nat,a<=so.length/\s8 =(a:Int)/\ge w1 wr/\(∀j x,j<a->so[j]?=some x->gH (ql names x) (ql names i))/\∀x,so[a]?=some x->¬gH (ql names x) (ql names i)
def F6 (w3:Wd)(names:List Nc)(so:List Nat)(i a:Nat)(s8:Value)(wx:Wd):Prop:= ∃b:Bool,s8 =.bool b/\ge w3 wx/\(b=true->¬names.Nodup)/\(b=false->∀x,so[a]?=some x->gH (ql names i) (ql names x))
def Mj (w:Wd)(names:List Nc)(ts:List JV)(e:Ending)(w':Wd):Prop:= ∃ (A:OA) (n q:Nat) (ok:Bool),e =.returned (.tuple #[.slice A n q,.bool ok])/\ge w w'/\(ok=true↔names.Nodup)/\(ok=false->n=0)/\
 (ok=true->∃ps,mJ names ts ps/\bo (w.heap.size<= ·) w' w.heap.size (.slice A n q) (JV.flat 0 (.mk 6 false es jx (ps.map Prod.fst) (ps.map Prod.snd))))
theorem wF {s t:Nc}(hs:jL s)(ht:jL t):li (qT s) (qT t)=true↔gH s t:=by
 unfold li gH;rw[EU hs.1,EU ht.1];simp
theorem Eh {a:Nat}(h:w.ownsRow base e 1 (.slice A n q) n (so.map cv))(ha:a<=n):w.ownsRow base e 1 (.slice A a q) a ((so.take a).map cv):=by
 have hl:so.length=n:=by have:=h.1;simpa using this
 rcases h.2 with ⟨e,h0⟩|⟨g,cap,cur,e,hb,hg,h1,h2,h3,h4⟩
 .injection e with e1 e2 e3
  subst e1 e3;obtain rfl:a=0:=by omega
  exact⟨by simp,.inl ⟨rfl,rfl⟩⟩
 .injection e with e1 _ e3
  subst e1 e3;refine⟨by simp;omega,.inr ⟨g,q,cur,rfl,hb,hg,by omega,h2,h3,?_⟩⟩;rw[Nat.mul_one] at h4 ⊢;rw[List.map_take,<-h4,List.take_take,Nat.min_eq_left ha]
theorem pp {k:Nat}(h:W.ownsRow B 9 k v n us)(hg:W.grownBy W' v.ownBlock):aK (fun e=>e=9) W W':=
 aK.of_grown hg (fun g e cs t z hh=>by obtain⟨cs',z',h'⟩:=cK h g e;rw[h'] at hh;injection hh with hh;injection hh with _ hh;exact hh.symm)
theorem rz {k:Nat}(h:W.ownsRow B 27 k v n us)(hg:W.grownBy W' v.ownBlock):aK (fun e=>e=27) W W':=
 aK.of_grown hg (fun g e cs t z hh=>by obtain⟨cs',z',h'⟩:=cK h g e;rw[h'] at hh;injection hh with hh;injection hh with _ hh;exact hh.symm)
def LB (vs:Nb)(k:Nat):Value:=vs.getD k undef
def KQ (w:Wd)(names:List Nc)(vs:Nb)(so:List Nat)(A6:OA)(q6:Nat)(s10 s11 s12:Value)(wx:Wd):Prop:= ∃ (k:Nat) (A10:OA) (q10:Nat) (A11:OA) (q11:Nat),k<=names.length/\s12 =(k:Int)/\s10 =.slice A10 k q10/\s11 =.slice A11 k q11/\
 wx.ownsRow w.heap.size 9 1 (.slice A10 k q10) k (((so.take k).map (ql names)).map dy)/\wx.ownsRow w.heap.size 27 1 (.slice A11 k q11) k ((so.take k).map (LB vs))/\wx.ownsRow w.heap.size 3 1 (.slice A6 names.length q6) names.length (so.map cv)/\ge w wx
theorem zX {names:List Nc}(h:wx.ownsRow w.heap.size 3 1 (.slice A6 names.length q6) names.length (so.map cv))(hb:ge w wx):KQ w names vs so A6 q6 () () (0:Int) wx:=
 ⟨0,none,0,none,0,Zk _,rfl,rfl,rfl,⟨by simp,.inl ⟨rfl,rfl⟩⟩,⟨by simp,.inl ⟨rfl,rfl⟩⟩,h,hb⟩
theorem vE {k:Nat}{s:Value}(h:vs[k]?=some s):LB vs k=s:=by unfold LB;rw[List.getD_eq_getElem?_getD,h];rfl
theorem GK {names:List Nc}(hlen:names.length=ts.length)(a1:vs.length=ts.length)(hp:so.Perm (List.range names.length))(hr:(so.map (ql names)).Pairwise gH)(hv:bC (fun v ns=>cS w 0 v ns) vs (ts.map (JV.flat 0))) :
  mJ names ts (so.map (fM names ts))/\(so.map (fM names ts)).map Prod.fst=so.map (ql names)/\bC (fun v ns=>cS w 0 v ns) (so.map (LB vs)) (((so.map (fM names ts)).map Prod.snd).map (JV.flat 0)):=by
 have hm:∀k∈so,k<names.length:=fun k hk=>by have:=hp.mem_iff.1 hk;simpa using this
 have hf:(so.map (fM names ts)).map Prod.fst=so.map (ql names):=by
  rw[List.map_map];exact List.map_congr_left (fun k hk=>DQ hlen (hm k hk))
 refine⟨⟨Af (by rw[List.length_zip,<-hlen,Nat.min_self];exact hp),by unfold ix;rw[hf];exact hr⟩,hf,by simp,fun i a b ha hb=>?_⟩;rw[List.getElem?_map] at ha;rw[List.getElem?_map,List.getElem?_map,List.getElem?_map] at hb
 cases hk:so[i]? with
 |none=>rw[hk] at ha;simp at ha
 |some k=>
  rw[hk] at ha hb;have hlt:=hm k (Zl hk);have ht:=Zd (l:=ts) (i:=k) (by omega);have a0:=Zd (l:=vs) (i:=k) (by omega);simp only[Option.map_some,Option.some.injEq] at ha hb;rw[D3 hlen ht] at hb;rw[vE a0] at ha;subst ha hb;exact hv.2 k _ _ a0 (by rw[List.getElem?_map,ht];rfl)
theorem hnum (i:Nat):((i+1:Nat):Int)= (i:Int)+1:=by omega
theorem pJ {w7:Wd}{names:List Nc}{s2:List Nat}{a:Nat}(hlt:i<names.length)(hp:so.Perm (List.range i))(ha:a<=i)(a3:so.drop a=s2)(hN:N=a+1+s2.length)
  (a0:w7.ownsRow w.heap.size 3 1 v N ((so.take a).map cv ++ [cv i]++s2.map cv)) (hb:ge w w7) (hr:(so.map (ql names)).Pairwise gH) (a1:∀j x,j<a->so[j]?=some x->gH (ql names x) (ql names i)) (a2:∀x,so[a]?=some x->gH (ql names i) (ql names x)) :
  Jc w names v ((i+1:Nat):Int) w7:=by
 subst a3;have hl:so.length=i:=by have:=hp.length_eq;simpa using this
 have a4:N=i+1:=by rw[hN,List.length_drop];omega
 subst a4;obtain⟨A,q,rfl,-⟩:=ai a0;refine⟨i+1,so.take a ++ [i]++so.drop a,A,i+1,q,by omega,rfl,rfl,?_,rfl,wL a hp,hb,xJ hr a1 a2⟩;unfold bO;have:(so.take a ++ [i]++so.drop a).length=i+1:=by simp;omega
 rw[this,List.map_append,List.map_append];exact a0
theorem og {t:TypeId}{k:Nat}(E:dH t e z k B)(w:Wd)(base:Nat)(ty:TypeId)(v:Value)(n:Nat)(xs:Nb)(a0:w.ownsRow base e k v n xs)(c:Nat) :
  (Builtin.append_ #[t,t] ty #[v,.slice none 0 c]).run prog w =.ok v w:=by
 obtain⟨i0,hi,a4,a2,a3⟩:=info_parts E.hi;rcases a0.2 with ⟨rfl,rfl⟩|⟨g,cap,cur,rfl,_,_,a1,_⟩
 .simp[Builtin.append_,run_underlying E.ht,sizeOf,typeInfo,hi,Builtin.lenOf,Builtin.firstCells]
 .simp[Builtin.append_,run_underlying E.ht,sizeOf,typeInfo,hi,Builtin.lenOf,Builtin.firstCells,a1,storeCells]
theorem ld {t:TypeId}{k:Nat}(E:dH t e z k B){ops:Array Oper}{rest:List Oper}{o:Oper}{a:Act}{Q:Exit->Act->Wd->Prop}(a1:o.guard=none)(s x:Operand)
  (ho:o.op =.call {callee:=.builtin .append,args:= #[s,x],argTypes:= #[t,t]}) (base:Nat) (v:Value) (n:Nat) (us:Nb) (hs:a.eval s=v) (a0:w.ownsRow base e k v n us) (c:Nat) (hx:a.eval x =.slice none 0 c)
  (h:wpList prog ops Q rest (a.put o.dst v) w):wpList prog ops Q (o::rest) a w:=
 wpList_plain a1 fun _ hK=>by
  unfold Oper.wp execOp;simp only[ho,resolve,invoke,builtin,Sem.run_bind,Sem.run_pure,Result.andThen_ok,List.map_toArray,List.map_cons,List.map_nil,hs,hx,og E w base _ v n us a0 c];exact hK _ _ h
theorem qW (A:OA)(a b q:Nat):(Value.slice A a q).ownBlock= (Value.slice A b q).ownBlock:=by cases A <;> rfl
theorem r8 {xs:Nb}(h:w.ownsRow base e 1 (.slice (some (nl g)) n q) n xs):∀j u,xs[j]?=some u->w.cell? (no g j)=some u:=fun j u hu=>by
 have hl:xs.length=n:=by have:=h.1;simpa using this
 have:=(List.getElem?_eq_some_iff.1 hu).1;rw[aB h rfl j (by omega),hu]
theorem xA {vl:Value}{names:List Nc}(hn:Sl w vn (names.map dy))(hl:fQ w vl (ts.map (JV.flat 0)))(hlen:names.length=ts.length)(h8:∀s∈names,jL s)(hnl:names.length<=1000000)(hsz:JV.sizes ts<=1000000)
  (hkl:∀t∈ts,∀x∈t.flat 0,x.names.length<=1000000/\∀q∈x.kids,q<=1000000) :
  Calls prog 189 #[vn,vl] w (Mj w names ts):=by
 obtain⟨hm,A,cap,rfl,h3,hA⟩:=id hn;rw[List.length_map] at hm h3 hA ⊢;obtain⟨vs,k3,i2⟩:=id hl;obtain⟨n3,A2,cap2,rfl,e4,h2⟩:=id k3;have a4:vs.length=ts.length:=by have:=i2.1;simpa using this
 rw[a4] at n3 e4 h2 ⊢;have HA:=Qa hA;have m0:=Qa h2;have Hn:=Qa hn;have Hl:=Qa hl;have l0:=Qa i2;have j3:=Qa a4;have a3:=Qa hlen;have H8:=Qa h8;have l5:=Qa hkl;have r7:ts.length<=1000000:=by omega
 clear hn hl hA h2 k3 i2 a4 hlen h8 hkl;go_in;go_wp2_with fail
 go_loopw [6,7,8,9] (fun s6 s7 _ _ wr=>Jc w names s6 s7 wr) (fun _ v _ _ _=>names.length - (intOf v).toNat)
 case atStart=>exact⟨0, [],none,0,0,Zk _,rfl,rfl,bO.nil _ _,rfl,by simp,Ze _ _,by simp⟩
 case round=>
  obtain⟨i,so,A6,n6,q6,hi,rfl,rfl,ho,n8,hp,hb,hr⟩:=hrel;subst n8;have b7:so.length=n6:=by have:=hp.length_eq;simpa using this
  unfold bO at ho;rw[b7] at ho;have Hp:=Qa hp;have Ho:=Qa ho;have Hb:=Qa hb;have Hr:=Qa hr;have Hsol:=Qa b7;have p4:=hb.size;obtain⟨_,cq,eq6,r4,q1,l3⟩:=ai ho;injection eq6 with e1 e2 e3
  subst e1 e3;have k2:=Qa l3;clear hp ho hb hr b7 l3 e2
  by_cases hlt:n6<names.length
  .obtain⟨gn,on,rfl,hcn⟩:=HA (by omega);obtain⟨si,k4⟩:∃s,names[n6]?=some s:=⟨_,Zd hlt⟩;have b5:=Qa k4;have f3:=Qa hcn;have q2:(n6:Int)<names.length:=by omega
   clear k4 hcn;obtain⟨wo,rfl⟩:∃wo:Wd,wo=wr:=⟨_,rfl⟩;go_upto_block 2 with fail
   go_cut [8] (fun s8 wx=>Kl wo names so n6 s8 wx)
   case first=>
    go_wp2_with fail
    go_loopw [8] (fun s8 wx=>Ln wo names so n6 s8 wx) (fun v _=>n6 - (intOf v).toNat)
    case atStart=>exact⟨0,Zk _,rfl,Ze _ _,fun j x h=>by omega⟩
    case round=>
     obtain⟨a,ha,rfl,hb,e0⟩:=hrel;have Hbi:=Qa hb;have Hlo:=Qa e0;rw[Hsol.out] at ha;clear hb e0
     by_cases hat:a<n6
     .obtain⟨z,hz⟩:=y8 so a (by rw[Hsol.out];exact hat);obtain⟨g6,rfl⟩:=k2 (by omega);have h5:z<n6:=by have:=Hp.mem_iff.1 (Zl hz);simpa using this
      obtain⟨sz,a0⟩:=y8 names z;have c1:=aB (Ho.below' Hbi) rfl a (by omega);rw[List.getElem?_map,hz] at c1;simp only[Option.map_some,cv] at c1;have c4:=Hb.trans (Hbi.mono Hb.size);have c2:=Zg c4 (f3 z (dy sz) (by rw[List.getElem?_map,a0];rfl));have c3:=Zg c4 (f3 n6 (dy si) (by rw[List.getElem?_map,b5.out];rfl));unfold dy at c2 c3;have f2:=H8 sz (Zl a0);have f0:=H8 si (Zl b5);have p5:=f2.2;have d5:=f0.2;have Hz:=Qa hz;have a5:=Qa a0;clear hz a0;have h7:(a:Int)<n6:=by omega
      have q4:z<names.length:=by omega
      go_wp2_with fail;refine aI (fun w'=>w'.cell? (no g6 a)=some (.int .i64 z)/\w'.cell? ⟨gn,on+z,none⟩=some (.string sz)/\w'.cell? ⟨gn,on+n6,none⟩=some (.string si)) (⟨c1,c2,c3⟩) fun a6=>?_
      refine bw 0 1 2 a6 ?_;refine bw 3 4 5 a6 ?_;refine bw 6 7 8 a6 ?_;refine bw 9 10 11 a6 ?_;refine bw 12 13 14 a6 ?_;refine tH 15 a6 ?_;refine rH 16 fun K hK=>?_
      go_simp;refine(ue _ sz si (Zc p5 (by decide)) (Zc d5 (by decide))).mono ?_;rintro e w9 ⟨rfl,b1⟩;have b2:=Qa (Hbi.trans (((Ze wr.heap.size wr).drew.trans b1).mono Hbi.size));go_simp;refine hK _ _ (⟨Zg b1 a6.1,Zg b1 a6.2.1,Zg b1 a6.2.2⟩) (fun a6=>?_);clear hK K
      try simp only[Act.put,jP,jQ,jR]
      refine tH 17 a6 ?_;refine y5 ?_
      by_cases hah:li (qT sz) (qT si)=true
      .rw[hah];have Hlt:=Qa ((wF f2 f0).1 hah);go_wp2_with fail;refine⟨⟨a+1,by rw[Hsol.out];omega,by go_num,b2.out,fun j x hj hx=>?_⟩,by simp[intOf];omega⟩
       by_cases hja:j=a
       .subst hja;have:=hx.symm.trans Hz.out;injection this with this
        subst this;rw[gQ a5.out,gQ b5.out];exact Hlt.out
       .exact Hlo j x (by omega) hx
      .have g8:li (qT sz) (qT si)=false:=by simpa using hah
       have m1:=Qa (fun h=>hah ((wF f2 f0).2 h));rw[g8];clear hah;go_wp2_with fail;go_meet
       case rel=>
        refine⟨a,by rw[Hsol.out];omega,rfl,b2.out,Hlo.out,fun x hx=>?_⟩;have:=hx.symm.trans Hz.out;injection this with this
        subst this;rw[gQ a5.out,gQ b5.out];exact m1.out
     .have h7:¬ (a:Int)<n6:=by omega
      go_wp2_with fail;go_quiet (fail);go_wp2_with fail;go_meet
      case rel=>exact⟨a,by rw[Hsol.out];omega,rfl,av Hbi.out _,Hlo.out,fun x hx=>by have:=(List.getElem?_eq_some_iff.1 hx).1;rw[Hsol.out] at this;omega⟩
   case rest=>
    obtain⟨a,ha,rfl,i8,e0,i5⟩:=hcut;rw[Hsol.out] at ha;have Hbi:=Qa i8;have Hlo:=Qa e0;have o3:=Qa i5;clear i8 e0 i5;have c4:=Hb.trans (Hbi.mono Hb.size);have c3:=Zg c4 (f3 n6 (dy si) (by rw[List.getElem?_map,b5.out];rfl));unfold dy at c3;have g5:=Qa c4;clear c4;go_upto_if 56 with fail
    obtain⟨w3,rfl⟩:∃w3:Wd,w3=wc:=⟨_,rfl⟩;go_cut [56] (fun s56 wx=>F6 w3 names so n6 a s56 wx)
    case first=>
     by_cases hat:a<n6
     .obtain⟨z,hz⟩:=y8 so a (by rw[Hsol.out];exact hat);obtain⟨g6,rfl⟩:=k2 (by omega);have h5:z<n6:=by have:=Hp.mem_iff.1 (Zl hz);simpa using this
      obtain⟨sz,a0⟩:=y8 names z;have c1:=aB (Ho.below' Hbi) rfl a (by omega);rw[List.getElem?_map,hz] at c1;simp only[Option.map_some,cv] at c1;have c2:=Zg g5.out (f3 z (dy sz) (by rw[List.getElem?_map,a0];rfl));unfold dy at c2;have f2:=H8 sz (Zl a0);have f0:=H8 si (Zl b5);have Hz:=Qa hz;have a5:=Qa a0;clear hz a0;have h7:(a:Int)<n6:=by omega
      have q4:z<names.length:=by omega
      by_cases he:sz=si
      .have q3:(sz.toList==si.toList)=true:=by rw[eF];simp[he]
       have a7:¬names.Nodup:=fun hd=>by
        have h1:=a5.out;rw[he] at h1;have:=CI hd h1 b5.out;omega
       have Hdup:=Qa a7;clear he a7;go_wp2_with fail;go_quiet (fail);go_wp2_with fail;go_meet
       case rel=>exact⟨_,rfl,av (Ze _ _) _,(fun _=>Hdup.out),(fun h=>by cases h)⟩
      .have q3:(sz.toList==si.toList)=false:=by rw[eF];simp[he]
       have Hlt:Hid (∀x,so[a]?=some x->gH (ql names n6) (ql names x)):=Qa (fun x hx=>by
        have h0:=o3 x hx;have:=hx.symm.trans Hz.out;injection this with this
        subst this;rw[gQ a5.out,gQ b5.out] at h0 ⊢;exact kj h0 he)
       clear he;go_wp2_with fail;go_quiet (fail);go_wp2_with fail;go_meet
       case rel=>exact⟨_,rfl,av (Ze _ _) _,(fun h=>by cases h),(fun _=>Hlt.out)⟩
     .have h7:¬ (a:Int)<n6:=by omega
      go_wp2_with fail;go_quiet (fail);go_wp2_with fail;go_meet
      case rel=>exact⟨_,rfl,av (Ze _ _) _,(fun h=>by cases h),fun _ x hx=>by have:=(List.getElem?_eq_some_iff.1 hx).1;rw[Hsol.out] at this;omega⟩
    case rest=>
     obtain⟨b,rfl,g3,a7,e6⟩:=hcut;have Hdup:=Qa a7;have Hlt:=Qa e6;have j2:=Qa g3;have a1:=Qa (g5.trans (g3.mono g5.size));clear e6 g3 a7
     cases b
     case true=>
      have Hd:=Qa (Hdup rfl);clear Hdup;go_wp2_with fail;go_ret2;exact⟨none,0,0,false,rfl,a1,⟨(fun h=>by cases h),(fun h=>absurd h Hd.out)⟩,(fun _=>rfl),(fun h=>by cases h)⟩
     have Hlt:=Qa (Hlt rfl);obtain⟨w4,l4⟩:=y7 wc;rw[l4] at j2 a1 ⊢;clear l4 Hdup c3;have f4:=Qa ((Ho.below' Hbi).below' j2.out);have b0:(so.drop a).length=n6 - a:=by rw[List.length_drop,Hsol.out]
     have h9:∀A' c',(a=n6\/∃g6,A6=some (nl g6)/\A'=some (no g6 a)/\c'=q6 - a)->n6 - a<=c'\/a=n6->Sl w4 (.slice A' (n6 - a) c') ((so.drop a).map cv):=by
      rintro A' c' h hc;refine⟨by rw[List.length_map,b0];unfold maxLen at q1;omega,A',c',by rw[List.length_map,b0],by rw[List.length_map,b0];omega,fun h0=>?_⟩;rw[List.length_map,b0] at h0;rcases h with h|⟨g6,rfl,rfl,rfl⟩
      .omega
      .refine⟨g6,a,rfl,fun j u hu=>?_⟩;have hj:=(List.getElem?_eq_some_iff.1 hu).1;rw[List.length_map,b0] at hj;rw[aB f4.out rfl (a+j) (by omega),<-hu,List.getElem?_map,List.getElem?_map,List.getElem?_drop]
     obtain⟨s2,d5⟩:=y7 (so.drop a);rw[d5] at h9 b0;have k6:=Qa d5;have j5:=Qa h9;have k1:=Qa b0;clear h9 b0 d5;have a2:=ce f4.out;have e5:=Qa a2;clear a2;go_upto_region 10 with fail
     go_cut [9] (fun s9 wx=> ∃A n q,s9 =.slice A n q/\bO wx w4.heap.size (.slice A n q) s2/\ge w4 wx)
     case first=>
      have k9:s2.length<=1000000:=by rw[k1.out];omega
      by_cases c7:q6=a
      .have o0:∀x y:Value,(if q6=a then x else y)=x:=fun x y=>if_pos c7
       have m9:∀x y:OA,(if q6=a then x else y)=x:=fun x y=>if_pos c7
       have n4:=Qa c7;clear c7;go_wp2_with fail;have c7:=n4.out;refine(xR (j5 _ _ (.inl (by omega)) (.inr (by omega))) k9).mono ?_;clear c7;rintro e w5 ⟨v,rfl,d6,b9⟩;obtain⟨A5,q5,rfl,-⟩:=ai b9;have Hb5:=Qa d6;have Hr5:=Qa b9;clear d6 b9;go_wp2_with fail;go_meet
       case rel=>exact⟨_,_,_,rfl,Hr5,Hb5⟩
      .rcases e5.out with ⟨e,h0,-⟩|⟨g6,c6,e,q7,r3,-⟩
       .injection e with _ _ e;omega
       injection e with e1 _ e3
       subst e1 e3;go_wp2_with fail;refine(xR (j5 _ _ (.inr ⟨g6,rfl,rfl,rfl⟩) (by omega)) k9).mono ?_;rintro e w5 ⟨v,rfl,d6,b9⟩;obtain⟨A5,q5,rfl,-⟩:=ai b9;have Hb5:=Qa d6;have Hr5:=Qa b9;clear d6 b9;go_wp2_with fail;go_meet
       case rel=>exact⟨_,_,_,rfl,Hr5,Hb5⟩
     case rest=>
      obtain⟨A9,n9,q9,rfl,g7,b1⟩:=hcut;have e8:=Qa g7;have b2:=Qa b1;have n2:n9=s2.length:=oE g7;subst n2;obtain⟨w5,j0⟩:=y7 wc;rw[j0] at e8 b2 ⊢;clear g7 b1 j0;have m2:=Qa (Eh (ha:=ha) (f4.below' b2));have f1:w.heap.size<=w5.heap.size:=Zc a1.size b2.size;have p6:=Qa (show(((so.take a).map cv)).length=a by rw[List.length_map,List.length_take,Hsol.out];omega);have f9:=Qa (m2.below' (aa w5 (.cells #[(n6:Int)] 3)));have b0:=k1.out;have r0:a+1+s2.length<=1000001:=by omega
      clear b0;rcases ce e8.out with ⟨e,h0,-⟩|⟨g9,c9,e,r6,r5,-⟩
      .injection e with e1 e2 e3
       have d7:s2 = []:=by have:=ce e8.out;exact List.eq_nil_of_length_eq_zero h0
       subst e1 e3;have d2:=Qa d7;clear d7;go_wp2_with (first
        |(at_builtin;refine ir fD f9.out (au w5 [cv n6] 3) (by simp;omega) ?_ (h1:=(by simp[cv,Value.oneCell']));intro v' w6 p1 p2 p3;have b4:=Qa p1;have d0:=Qa p2;clear p1 p2 p3)
        |(at_builtin;refine ld fD rfl (.tmp 66) (.tmp 67) rfl w.heap.size v' (a+1) ((so.take a).map cv ++ [cv n6]) (by simp[Act.eval]) b4.out 0 (by simp[Act.eval]) ?_))
       have f8:ge w w6:=aD (((a1.trans (b2.mono a1.size)).alloc f1 _)) f9.out (Zc f1 (by simp)) d0.out;have hN:=hnum n6;exact⟨hN▸pJ hlt Hp.out ha k6.out (N:=a+1) (by rw[d2.out];simp) (by rw[d2.out];simpa using b4.out) f8 Hr.out Hlo.out Hlt.out,by simp[intOf];omega⟩
      .injection e with e1 e2 e3
       subst e1 e3;go_wp2_with (first
        |(at_builtin;refine ir fD f9.out (au w5 [cv n6] 3) (by simp;omega) ?_ (h1:=(by simp[cv,Value.oneCell']));intro v' w6 p1 p2 p3;have b4:=Qa p1;have d0:=Qa p2;have i9:=World.ownsRow.kept (e8.below' (aa w5 (.cells #[.int .i64 (n6:Int)] 3))) p2 (.inr (fun e=>by have:=(World.ownsRow.lt f4 g9 (by rw[<-qW A6 a n6 q6];exact e.symm)).2;omega));have p0:=Qa (r8 i9);clear i9;clear p1 p2 p3)
        |(at_builtin;refine ir fD b4.out p0.out (by have:=d0.size;simp at this;omega) ?_ (hl:=(by simp)) (h1:=(by intro u hu;obtain⟨x,_,rfl⟩:=List.mem_map.1 hu;rfl));intro v7 w7 p1 p2 p3;have e7:=Qa p1;have f6:=Qa p2;clear p1 p2 p3))
       have f8:ge w w6:=aD (((a1.trans (b2.mono a1.size)).alloc f1 _)) f9.out (Zc f1 (by simp)) d0.out;have m5:ge w w7:=aD f8 b4.out f8.size f6.out;have hN:=hnum n6;exact⟨hN▸pJ hlt Hp.out ha k6.out (N:=a+1+s2.length) rfl e7.out m5 Hr.out Hlo.out Hlt.out,by simp[intOf];omega⟩
  .obtain rfl:n6=names.length:=by omega
   obtain⟨wo,rfl⟩:∃wo:Wd,wo=wr:=⟨_,rfl⟩;have HFill:=Qa (zX (vs:=vs) Ho.out Hb.out (names:=names));go_wp2_with fail
   go_loopw [10,11,12] (fun s10 s11 s12 wx=>KQ w names vs so A6 q6 s10 s11 s12 wx) (fun _ _ v _=>names.length - (intOf v).toNat)
   case atStart=>exact HFill.out
   case round=>
    obtain⟨k,A10,q10,A11,q11,hk,rfl,rfl,rfl,c5,c0,h6,hb⟩:=hrel;have k5:=Qa c5;have l1:=Qa c0;have H6:=Qa h6;have d9:=Qa hb;have a9:=hb.size;clear c5 c0 h6 hb
    by_cases hlt:k<names.length
    .obtain⟨z,hz⟩:=y8 so k (by rw[Hsol.out];exact hlt);have h5:z<names.length:=by have:=Hp.mem_iff.1 (Zl hz);simpa using this
     obtain⟨gn,on,rfl,hcn⟩:=HA (by omega);obtain⟨g2,o2,rfl,g0⟩:=m0 (by have:=a3.out;omega);obtain⟨sz,a0⟩:∃s,names[z]?=some s:=⟨_,Zd h5⟩;obtain⟨vz,c8⟩:=y8 vs z (by have:=a3.out;have:=j3.out;omega);obtain⟨tz,k0⟩:=y8 ts z (by have:=a3.out;omega);have k7:=l0.2 z vz _ c8 (by rw[List.getElem?_map,k0];rfl);obtain⟨Az,cz,rfl,-⟩:=k7.form;rw[JV.flat_len] at c8;obtain⟨g6,rfl⟩:=eb H6.out (by omega);have c1:=aB H6.out rfl k (by omega);rw[List.getElem?_map,hz] at c1;simp only[Option.map_some,cv] at c1;have c2:=Zg d9.out (hcn z (dy sz) (by rw[List.getElem?_map,a0];rfl));have c3:=Zg d9.out (g0 z _ c8);unfold dy at c2;have hki:(k:Int)<names.length:=by omega
     have q8:z<ts.length:=by have:=a3.out;omega
     have Hz:=Qa hz;have m3:=Qa a0;have o1:=Qa c8;have n5:=Qa (g0 z _ c8);have n1:=Qa (fun (f:Nat->Nc)=>show(so.take (k+1)).map f= (so.take k).map f ++ [f z] by rw[cA hz,List.map_append];rfl);have q0:=Qa (fun (f:Nat->Value)=>show(so.take (k+1)).map f= (so.take k).map f ++ [f z] by rw[cA hz,List.map_append];rfl);have i0:=Qa (k5.below' (aa wr (.cells #[sz] 9)));clear hz a0 c8 k0 k7 hcn g0;go_wp2_with (first
      |(at_builtin;refine ir uS i0.out (au wr [dy sz] 9) (by simp;omega) ?_ (h1:=(by simp[dy,Value.oneCell']));intro v1 w1 p1 p2 p3;have b4:=Qa p1;have d0:=Qa p2;have f5:=aa wr (.cells #[.string sz] 9);have f7:ge w w1:=aD (d9.alloc a9 _) i0.out (Zc a9 f5.size) p2;have g4:=pp i0.out p2;have l2:=Qa (ap (H6.below' f5) g4 (by decide));have g1:=Qa (ap (l1.below' f5) g4 (by decide));have m4:=Qa f7;have d1:=(r8 l2) k _ (by rw[List.getElem?_map,Hz.out];rfl);unfold cv at d1;have d3:=Zg f7 n5.out;have d4:=f7.size;have b6:=Qa (g1.below' (aa w1 (.cells #[.slice Az tz.size cz] 27)));clear p1 p2 p3 f5 f7 g4)
      |(at_builtin;refine ir ej b6.out (au w1 [.slice Az tz.size cz] 27) (by simp;omega) ?_;intro v2 w2 p1 p2 p3;have e7:=Qa p1;have f6:=Qa p2;clear p1 p2 p3))
     obtain⟨B1,r1,rfl,-⟩:=ai b4.out;obtain⟨B2,r2,rfl,-⟩:=ai e7.out;have b8:=aa w1 (.cells #[.slice Az tz.size cz] 27);have hkt:=rz b6.out f6.out;refine⟨⟨k+1,B1,r1,B2,r2,by omega,by go_num,rfl,rfl,?_,?_,ap (l2.below' b8) hkt (by decide),aD (m4.alloc d4 _) b6.out (Zc d4 b8.size) f6.out⟩,by simp[intOf];omega⟩
     .have h1:=ap (b4.below' b8) hkt (by decide);rw[n1.out,List.map_append,List.map_singleton,gQ m3.out];exact h1
     .have h1:=e7.out;rw[q0.out,vE o1.out];exact h1
    .obtain rfl:k=names.length:=by omega
     have c5:=k5.out;have c0:=l1.out;rw[List.take_of_length_le (by rw[Hsol.out];exact Zb _)] at c5 c0;have b3:=Qa (GK a3.out j3.out Hp.out Hr.out l0.out);have j1:=Qa (mJ.sizes a3.out b3.1);have o4:=Qa (uN Hp.out Hr.out);have n0:=Hsol.out;have i4:=Qa (Sl.of_own c5);have i3:=Qa (Sl.of_own c0);clear c5 c0;go_wp2_with fail;refine(kL (names:=so.map (ql names)) (ts:=(so.map (fM names ts)).map Prod.snd) i4.out ⟨so.map (LB vs),i3,b3.2.2.mono fun _ _ h=>h.below d9.out (Zb _)⟩ (by rw[List.length_map,n0];exact hnl) (by rw[j1.out.1];exact hsz) (fun t ht x hx=>l5 t (j1.2.1.mem_iff.1 ht) x hx)).mono ?_;rintro e w9 ⟨v,rfl,b1,h4⟩;have a2:∃A n q,v =.slice A n q:=by obtain⟨A,q,e,_⟩:=h4.form;exact⟨_,_,_,e⟩
     obtain⟨A9,n9,q9,rfl⟩:=a2;have b2:=Qa (d9.trans (b1.mono a9));have n7:=Qa ((h4.low a9).imp (Q:=(w.heap.size<= ·)) (fun g h _=>Zc a9 h));clear b1 h4;go_wp2_with fail;go_ret2;exact⟨A9,n9,q9,true,rfl,b2,⟨fun _=>o4.out,fun _=>rfl⟩,(fun h=>by cases h),fun _=>⟨_,b3.1,by rw[b3.out.2.1];exact n7.out⟩⟩
def p8 (xs:Na)(rb:Nat)(w:Wd)(at_ lo:Nat)(n:Nat)(names:List Nc)(own:Option Nat)(vs:Nb)(ts:List JV)(wx:Wd):Prop:=
 n<=lo/\names.Nodup/\(∀s∈names,jL s)/\(∀u∈ts,cW ix u)/\bC (fun v ns=>bo (fun g=>own≠some g) wx rb v ns) vs (ts.map (JV.flat 0))/\JV.sizes ts+at_<=lo
def FS (xs:Na)(rb:Nat)(w:Wd)(at_:Nat)(s5 s6:Value)(wx:Wd):Prop:= ∃ (A:OA) (n q:Nat) (A6:OA) (q6:Nat) (names:List Nc) (vs:Nb) (ts:List JV) (at' k':Nat) (c:Int),s5 =.slice A n q/\s6 =.slice A6 n q6/\
 wx.ownsRow w.heap.size 9 1 (.slice A n q) n (names.map dy)/\wx.ownsRow w.heap.size 27 1 (.slice A6 n q6) n vs/\Rd xs rb wx at' k' c/\Rk rb w wx/\at_<=at'/\(c=0->k'+1<=at'/\p8 xs rb w at_ at' n names (Value.slice A n q).ownBlock vs ts wx)
def OS (xs:Na)(rb:Nat)(w:Wd)(at_ tb lo:Nat)(p:Prop)(at' k':Nat)(c:Int)(s5 s6:Value)(t:Tk)(wx:Wd):Prop:= ∃ (A:OA) (n q:Nat) (A6:OA) (q6:Nat) (names:List Nc) (vs:Nb) (ts:List JV),s5 =.slice A n q/\s6 =.slice A6 n q6/\
 wx.ownsRow w.heap.size 9 1 (.slice A n q) n (names.map dy)/\wx.ownsRow w.heap.size 27 1 (.slice A6 n q6) n vs/\lo<=at'/\Rd xs rb wx at' k' c/\Rk rb w wx/\at_<=lo/\
 wx.heap[tb]?=some (.cells (fd t) 201 (0,0))/\w.heap.size<=tb/\rb<w.heap.size/\(p->p8 xs rb w at_ lo n names (Value.slice A n q).ownBlock vs ts wx)
theorem p8.keeps {names:List Nc}{own:Option Nat}(h:p8 xs rb w at_ lo n names own vs ts wx)(hk:aK T wx w2)(h1:¬T 9)(h2:¬T 3)(h3:¬T 74):p8 xs rb w at_ lo n names own vs ts w2:=by
 obtain⟨g1,g2,g3,g4,g5,g6⟩:=h;exact⟨g1,g2,g3,g4,g5.mono fun _ _ h=>h.keeps hk h1 h2 h3,g6⟩
section
variable {xs:Na}{rb:Nat}{w wx:Wd}{at_ tb lo at' k':Nat}{p:Prop}{c:Int}{s5 s6:Value}{t:Tk}
theorem OS.rd (h:OS xs rb w at_ tb lo p at' k' c s5 s6 t wx):Rd xs rb wx at' k' c:=by obtain⟨_,_,_,_,_,_,_,_,_,_,_,_,_,h,_⟩:=h;exact h
theorem OS.tok (h:OS xs rb w at_ tb lo p at' k' c s5 s6 t wx):wx.heap[tb]?=some (.cells (fd t) 201 (0,0)):=by obtain⟨_,_,_,_,_,_,_,_,_,_,_,_,_,_,_,_,h,_⟩:=h;exact h
theorem OS.shape (h:OS xs rb w at_ tb lo p at' k' c s5 s6 t wx):∃A n q A6 q6,s5 =.slice A n q/\s6 =.slice A6 n q6:=by obtain⟨A,n,q,A6,q6,_,_,_,h,h',_⟩:=h;exact⟨A,n,q,A6,q6,h,h'⟩
theorem OS.rk (h:OS xs rb w at_ tb lo p at' k' c s5 s6 t wx):Rk rb w wx/\at_<=lo/\lo<=at'/\w.heap.size<=tb/\rb<w.heap.size:=by
 obtain⟨_,_,_,_,_,_,_,_,_,_,_,_,h1,_,h2,h3,_,h4,h5,_⟩:=h;exact⟨h2,h3,h1,h4,h5⟩
theorem OS.step {lP:Nat}{c2:Int}(h:OS xs rb w at_ tb lo p at' k' c s5 s6 t wx)(hR:Rd xs rb w2 lP k2 c2)(hk:Rk rb wx w2)(hat:at'<=lP):OS xs rb w at_ tb lo p lP k2 c2 s5 s6 t w2:=by
 obtain⟨A,n,q,A6,q6,names,vs,ts,rfl,rfl,h1,h2,h3,h4,h5,h6,h7,h8,h9,a0⟩:=h;exact⟨A,n,q,A6,q6,names,vs,ts,rfl,rfl,ap h1 hk.2 iQ,ap h2 hk.2 (by unfold TR;decide),by omega,hR,h5.trans hk,h6,hk.row h7 da,h8,h9,fun e=>(a0 e).keeps hk.2 iQ lO lJ⟩
theorem OS.put (h:OS xs rb w at_ tb lo p at' k' c s5 s6 t wx)(t2:Tk):OS xs rb w at_ tb lo p at' k' c s5 s6 t2 (wx.setRow tb (fd t2)):=by
 obtain⟨A,n,q,A6,q6,names,vs,ts,rfl,rfl,h1,h2,h3,h4,h5,h6,h7,h8,h9,a1⟩:=h;have a0:aK (fun e=>e=201) wx (wx.setRow tb (fd t2)):=aK.of_grown (aj ..) (fun g e cs T z hh=>by cases e;rw[h7] at hh;injection hh with hh;injection hh with _ hh;exact hh.symm);exact⟨A,n,q,A6,q6,names,vs,ts,rfl,rfl,ap h1 a0 (by decide),ap h2 a0 (by decide),h3,h4.other h7 da (by omega) _,h5.fresh h8 (Zj h9) _,h6,setRow_heap _ _ _ _ _ _ h7,h8,h9,fun e=>(a1 e).keeps a0 (by decide) (by decide) (by decide)⟩
theorem OS.below (h:OS xs rb w at_ tb lo p at' k' c s5 s6 t wx)(hb:ge wx w2):OS xs rb w at_ tb lo p at' k' c s5 s6 t w2:=
 h.step (h.rd.below hb) (Rk.of_below hb (Zj h.rd.lt)) (Zb _)
theorem OS.open (h:OS xs rb w at_ tb lo p at' k' c (.slice A n q) (.slice A6 n q6) t wx):∃names vs ts,wx.ownsRow w.heap.size 9 1 (.slice A n q) n (names.map dy)/\wx.ownsRow w.heap.size 27 1 (.slice A6 n q6) n vs/\(p->p8 xs rb w at_ lo n names (Value.slice A n q).ownBlock vs ts wx):=by
 obtain⟨_,_,_,_,_,names,vs,ts,e,e',h1,h2,_,_,_,_,_,_,_,a0⟩:=h;injection e with e1 e2 e3
 injection e' with e4 _ e6
 subst e1 e2 e3 e4 e6;exact⟨names,vs,ts,h1,h2,a0⟩
theorem OS.obj (h:OS xs rb w at_ tb lo p at' k' c s5 s6 t wx)(he:c=0->p/\k'+1<=at'):FS xs rb w at_ s5 s6 wx:=by
 obtain⟨A,n,q,A6,q6,names,vs,ts,rfl,rfl,h1,h2,h3,h4,h5,h6,h7,h8,h9,a0⟩:=h;exact⟨A,n,q,A6,q6,names,vs,ts,at',k',c,rfl,rfl,h1,h2,h4,h5,by omega,fun e=>⟨(he e).2,by obtain⟨g1,g2,g3,g4,g5,g6⟩:=a0 (he e).1;exact⟨by omega,g2,g3,g4,g5,by omega⟩⟩⟩
theorem Rd.grownRow {k:Nat}{T:TypeId}(h:Rd xs rb W at' k' c)(hv:W.ownsRow B T k v n vs)(hT:T≠262)(hB:rb<B)(a9:B<=W.heap.size)(hg:W.grownBy W' v.ownBlock):Rd xs rb W' at' k' c:=by
 have hlt:=h.lt;have hb:Below B W W':=aD (Ze B W) hv a9 hg;obtain⟨a1,a2,a3,a4,a5,a6,a7,L,m,hh,l,us,w0,h1,h2,h3,h4,h5,h6⟩:=h;refine⟨a1,a2,a3,a4,a5,a6,a7,L,m,hh,l,us,w0,(hb.block rb hB).trans h1,h2,h3,h4.trans (hb.mono (Zj hB)),World.ownsRow.kept h5 hg ?_,h6⟩
 cases hb:(Value.slice a3 _ a4).ownBlock with
 |none=>exact .inl rfl
 |some x=>
  obtain⟨_,cur,hx⟩:=am h5 hb;refine .inr (fun e=>?_);obtain⟨_,cur2,a0⟩:=am hv e.symm;rw[hx] at a0;injection a0 with a0;injection a0 with _ a0;exact hT a0.symm
theorem OS.push {W1 W3:Wd}{Av:OA}{vn vq:Nat}{names:List Nc}{s:Nc}{v5 v6:Value}
  (h1:wx.ownsRow w.heap.size 9 1 (.slice A n q) n (names.map dy)) (h2:wx.ownsRow w.heap.size 27 1 (.slice A6 n q6) n vs) (h5:Rk rb w wx) (h7:wx.heap[tb]?=some (.cells (fd t) 201 (0,0))) (h8:w.heap.size<=tb) (h9:rb<w.heap.size)
  (c1:p8 xs rb w at_ lo n names (Value.slice A n q).ownBlock vs ts wx) (hat:at_<=at4) (hR:Rd xs rb W1 at4 k4 c4) (hk:Rk rb wx W1)
  (hj:c4=0->n+1<=at4/\jL s/\s∉names/\∃j:JV,cW ix j/\bo (wx.heap.size<= ·) W1 rb (.slice Av vn vq) (j.flat 0)/\j.size+lo<=at4)
  (b5:W2.ownsRow w.heap.size 9 1 v5 (n+1) (names.map dy ++ [dy s])) (b0:v5.ownBlock= (Value.slice A n q).ownBlock\/v5.ownBlock=some (W1.alloc (.cells #[s] 9)).heap.size) (a4:(W1.alloc (.cells #[s] 9)).grownBy W2 (Value.slice A n q).ownBlock)
  (b6:W3.ownsRow w.heap.size 27 1 v6 (n+1) (vs ++ [.slice Av vn vq])) (a6:(W2.alloc (.cells #[.slice Av vn vq] 27)).grownBy W3 (Value.slice A6 n q6).ownBlock) :
  OS xs rb w at_ tb at4 (c4=0) at4 k4 c4 v5 v6 t W3:=by
 obtain⟨A',q',rfl,-⟩:=ai b5;obtain⟨A6',q6',rfl,-⟩:=ai b6;have a2:=aa W1 (.cells #[s] 9);have a0:=aa W2 (.cells #[.slice Av vn vq] 27);have hrb:=Zj h9;have a3:Rk rb wx (W1.alloc (.cells #[s] 9)):=hk.trans (Rk.of_below a2 (Zj hR.lt));have a5:=ap h1 a3.2 iQ;have c0:=Zc h5.2.1 a3.2.1;have b4:=pp a5 a4;have b8:=(hR.below a2).grownRow a5 (by decide) h9 c0 a4;have b3:=b8.below a0;have b7:=((h5.trans a3).grownFresh a4 (fun g e=>(am a5 e).1) hrb).trans (Rk.of_below a0 (Zj b8.lt));have b2:=(ap (ap h2 a3.2 (by unfold TR;decide)) b4 (by decide)).below' a0;have b1:=rz b2 a6;have b9:=b7.2.1;have c2:(W2.alloc (.cells #[.slice Av vn vq] 27)).heap[tb]?=some (.cells (fd t) 201 (0,0)):=by
  have a1:=b4.2 _ _ _ _ (a3.row h7 da) (by decide);exact(a0.block _ (ah a1)).trans a1
 refine⟨A',n+1,q',A6',q6',names ++ [s],vs ++ [.slice Av vn vq],(@dite _ (c4=0) (Classical.propDecidable _) (fun h=>ts ++ [Classical.choose (hj h).2.2.2]) (fun _=> [])),rfl,rfl,by rw[List.map_append];exact ap (b5.below' a0) b1 (by decide),b6,Zb _,b3.grownRow b2 (by decide) h9 b9 a6,b7.grownFresh a6 (fun g e=>(am b2 e).1) hrb,hat,b1.2 _ _ _ _ c2 (by decide),h8,h9,fun e=>?_⟩;simp only[dif_pos e];obtain⟨g1,g2,g3,g4,g5,g6⟩:=c1;obtain⟨r1,r2,r3,r4⟩:=hj e;obtain⟨q1,q2,q3⟩:=Classical.choose_spec (hj e).2.2.2;generalize Classical.choose (hj e).2.2.2=j at *;refine⟨r1,?_,?_,?_,?_,?_⟩
 .rw[List.nodup_append];exact⟨g2,by simp,fun a ha b hb e=>by simp at hb;subst hb;subst e;exact r3 ha⟩
 .intro x hx;rcases List.mem_append.1 hx with hx|hx;exact g3 x hx;simp at hx;subst hx;exact r2
 .intro u hu;rcases List.mem_append.1 hu with hu|hu;exact g4 u hu;simp at hu;subst hu;exact q1
 .rw[List.map_append];have a7:∀g,(Value.slice A n q).ownBlock=some g->g<wx.heap.size:=fun g e=>(World.ownsRow.lt h1 g e).2
  have a9:∀g:Nat,(Value.slice A n q).ownBlock≠some g->g< (W1.alloc (.cells #[s] 9)).heap.size->(Value.slice A' (n+1) q').ownBlock≠some g:=fun g h1 h2 e=>by
   rcases b0 with h|h
   .rw[h] at e;exact h1 e
   .rw[h] at e;injection e with e;omega
  have step:∀ (v:Value) (ns:List Nd),bo (fun g=>(Value.slice A n q).ownBlock≠some g) (W1.alloc (.cells #[s] 9)) rb v ns->bo (fun g=>(Value.slice A' (n+1) q').ownBlock≠some g) W3 rb v ns:=fun v ns h=>by
   have h':=(h.imp (Q:=fun g=>(Value.slice A n q).ownBlock≠some g/\(Value.slice A' (n+1) q').ownBlock≠some g) (fun g a b=>⟨a,a9 g a b⟩)).grownStr a4 (cK a5) (fun g a=>a.1);exact((h'.below a0 (Zb _)).keeps b1 (by decide) (by decide) (by decide)).imp (fun g a _=>a.2)
  refine(g5.mono fun v ns h=>step v ns (h.keeps a3.2 iQ lO lJ)).snoc (step _ _ ((q2.below a2 (Zb _)).imp (fun g a _ e=>?_)));have:=a7 g e;omega
 .rw[dk];simp only[JV.sizes];omega
end
theorem Rd.mu_lt' {jy lP:Nat}{c1 c2:Int}(h1:Rd xs rb w1 jy k1 c1)(h2:Rd xs rb w2 lP k2 c2)(h:jy+1<=lP):nX xs.length rb w2<nX xs.length rb w1:=by
 rw[h1.mu,h2.mu];have:=h2.atle;split <;> split <;> omega
def MO (xs:Na)(rb:Nat)(w:Wd)(at_ tb:Nat)(s5 s6:Value)(wx:Wd):Prop:= ∃lo at' k' c t,OS xs rb w at_ tb lo True at' k' c s5 s6 t wx/\(c=0->(t.kind≠5->k'+1<=at')/\kv t)
theorem xO (hl:xs.length<=6000)
  (hV:∀ (jy:Nat) (t:Tk) (w:Wd) (k:Nat) (c:Int) (d:Int),(c=0->t.kind≠5->at_+1<=jy)->Rd xs rb w jy k c->(c=0->(t.kind≠5->k+1<=jy)/\kv t)->
   Calls prog 112 #[.pointer (some (nl rb)),ly t,(d:Int)] w (kr ix xs rb w jy (t.kind≠5)))
  {w:Wd} {k:Nat} (d:Int) (h:Rd xs rb w at_ k 0) (hk:k+1<=at_):Calls prog 148 #[.pointer (some (nl rb)),(d:Int)] w (kr ix xs rb w at_ True):=by
 have HR:=Qa h;have Hk:=Qa hk;have HV:=Qa hV;clear hV hk h;have b7:=aa w (.cells #[(1:Int),(d:Int),(6:Int),es,()] 262);have b0:=HR.lt;obtain⟨a1,a2,a3,a4,a5,a6,a7,L,m,hh,l,us,w0,h1,h2,h3,h4,h5,h6,h7⟩:=HR.out;have c12:=ac h1 (j:=12) (u:=.slice a3 _ a4) rfl;have g1:=(b7.block _ b0).trans h1;have H:=x9 g1 h2 h3 (h4.trans (b7.mono (Zj b0))) (aq h5 b7 (Zb _)) h6;have f4:=Qa (au w [(1:Int),(d:Int),(6:Int),es,()] 262);have c6:=Qa b7;have f5:=Qa (show rb+1<=w.heap.size from b0);have b9:=Qa h6;clear h1 h2 h3 h4 h5 h6 h7 b7 g1 b0;go_in;go_wp2_with (at_builtin;refine ir ki H.2.2.2.2.1 f4.out (Zc f5 c6.size) ?_ (hlen:=(by have:=Hk.out;have:=b9.out;unfold maxLen;omega)) (hby:=(by have:=Hk.out;have:=b9.out;omega));intro v' w1 p1 p2 p3;have c7:=Qa p1;have d0:=Qa p2;(obtain⟨A',c',he,-⟩:=ai p1);subst he;have a0:=ke H.1 H.2.1 H.2.2.1 H.2.2.2.1 H.2.2.2.2.1 H.2.2.2.2.2 Hk.out c7.out d0.out;have r12:=ac a0.1 (j:=12) (u:=.slice a3 k a4) rfl;have f12:=ao a0.1 12;have b8:=Qa a0;clear p1 p2 p3 a0);refine(dE b8.2.1 (by omega)).mono ?_;rintro e w2 ⟨t,lP,c,rfl,l1,k3,d5,m1⟩;have f9:=Qa l1;have i5:=Qa (((Rk.of_below c6 (Zj HR.lt)).trans b8.2.2).trans k3);have Ht2:=Qa m1;have f8:=Qa d5;obtain⟨tk,ta,tm,ts,⟨dn,dd,dx⟩⟩:=t;rw[show ly ⟨tk,ta,tm,ts,⟨dn,dd,dx⟩⟩ =.agg #[(tk:Int),(ta:Int),.int .u8 tm,ts,.bool dn,dd,(dx:Int)] from rfl];have c3:=aa w2 (.cells #[(tk:Int),(ta:Int),.int .u8 tm,ts,.bool dn,dd,(dx:Int)] 201);have f6:=Qa (Zf w2 (.cells #[(tk:Int),(ta:Int),.int .u8 tm,ts,.bool dn,dd,(dx:Int)] 201));have f3:=Qa (f9.below c3);have l4:=Qa (i5.trans (Rk.of_below c3 (Zj f9.lt)));have n4:=Qa (show w.heap.size<=w2.heap.size from i5.2.1);have n5:=Qa HR.lt;clear l1 k3 m1 d5 c3 f9 i5 c12 r12 f12;have mk:∀ (X:Int) (W:Wd),Calls prog 145 #[.agg #[(tk:Int),(ta:Int),.int .u8 tm,ts,.bool dn,dd,(dx:Int)],.int .u8 X] W fun e w'=>iW ⟨tk,ta,tm,ts,⟨dn,dd,dx⟩⟩ X W e w':=fun X W=>gd ⟨tk,ta,tm,ts,⟨dn,dd,dx⟩⟩ X W
 have Mk:=Qa mk;clear mk;go_upto_region 5 with fail
 generalize (w2.alloc (.cells #[(tk:Int),(ta:Int),.int .u8 tm,ts,.bool dn,dd,(dx:Int)] 201))=w3 at *;generalize w2.heap.size=tb at *;go_cut [35] (fun s35 wx=>(∃b:Bool,s35 =.bool b/\(b=false->c=0->tk=1)/\(b=true->c=0))/\ge w3 wx)
 case first=>
  have cc:=f3.code;obtain⟨t0,t1,t2,t3,t4,t5,t6⟩:=bl (t:=⟨tk,ta,tm,ts,⟨dn,dd,dx⟩⟩) f6.out
  by_cases hc:c=0
  .have Hc:=Qa hc;subst hc;go_wp2_with fail;refine(Mk 125 w3).mono ?_;rintro e w4 ⟨b,rfl,hm,i8⟩;have Hm:=Qa hm;have Hb4:=Qa i8;clear hm i8 t0 t1 t2 t3 t4 t5 t6 cc
   cases b
   .go_wp2_with fail;go_meet
    case rel=>exact⟨⟨_,rfl,(fun h=>absurd h (by decide)),(fun _=>by trivial)⟩,Hb4.out⟩
   .have Hm1:=Qa (Hm rfl);go_wp2_with fail;go_meet
    case rel=>exact⟨⟨_,rfl,(fun _ _=>Hm1.out),(fun h=>absurd h (by decide))⟩,Hb4.out⟩
  .have j0:(c==0)=false:=by simpa using hc
   have Hc:=Qa hc;clear hc;go_wp2_with fail;go_meet
   case rel=>exact⟨⟨_,rfl,(fun _ h=>absurd h Hc.out),(fun h=>absurd h (by decide))⟩,Ze _ _⟩
 case rest=>
  obtain⟨⟨b,rfl,j5,m3⟩,f7⟩:=hcut;have Hq1:=Qa j5;have d1:=Qa m3;have h8:=Qa (f3.below f7);have i4:=Qa (l4.trans (Rk.of_below f7 (Zj f3.lt)));have c1:=Qa ((f7.block _ (ah f6)).trans f6.out);clear j5 m3 f7;obtain⟨w4,m4⟩:=y7 wc;rw[m4] at h8 i4 c1 ⊢;clear m4;have HO4:Hid (OS xs rb w at_ tb at_ True lP (k+1) c () () ⟨tk,ta,tm,ts,⟨dn,dd,dx⟩⟩ w4):=Qa ⟨none,0,0,none,0, [], [], [],rfl,rfl,⟨rfl,.inl ⟨rfl,rfl⟩⟩,⟨rfl,.inl ⟨rfl,rfl⟩⟩,f8.out,h8.out,i4.out,Zb _,c1.out,n4.out,n5.out,fun _=>⟨Zk _,by simp,by simp,by simp,bC.nil _,by simp[JV.sizes]⟩⟩;go_upto_if 35 with fail
  go_cut [5,6] (fun s5 s6 wx=>FS xs rb w at_ s5 s6 wx)
  case first=>
   cases b
   .go_wp2_with fail;go_meet
    case rel=>exact HO4.obj (fun h=>⟨by trivial,by have e1:tk=1:=(by first|exact Hq1 rfl h|exact Hq1 h|exact Hq1 trivial h);have:=(Ht2 h).1 (by show ¬tk=5;omega);have:=Hk.out;omega⟩)
   .have n2:c=0:=(by first|exact d1 rfl|exact d1 trivial|exact d1.out);subst n2;have Hst:Hid (MO xs rb w at_ tb () () w4):=Qa ⟨_,_,_,_,_,HO4.out,fun _=>⟨fun h=>by have:=(Ht2 (by trivial)).1 h;have:=Hk.out;omega,(Ht2 (by trivial)).2⟩⟩;clear Mk Hq1 d1 HO4 h8 i4 c1 f3 l4 f6 Ht2;go_wp2_with fail
    go_loopw [5,6,8,9,36] (fun s5 s6 _ _ _ wx=>MO xs rb w at_ tb s5 s6 wx) (fun _ _ _ _ _ wx=>nX xs.length rb wx)
    case atStart=>exact Hst.out
    case round=>
     obtain⟨lo,at',k',c',tt,e0,d3⟩:=hrel;obtain⟨A,n,q,A6,q6,rfl,rfl⟩:=e0.shape;obtain⟨Ga,ta0,tm0,ts0,⟨dn0,dd0,dx0⟩⟩:=tt;have e7:=Qa e0;have n9:=Qa d3;have b6:=Qa e0.rk;obtain⟨names,vs,ts,h1,h2,h9⟩:=e0.open;have hn:n=names.length:=by have:=h1.1;simpa using this.symm
     subst hn;have H1:=Qa h1;have H2:=Qa h2;have H9:=Qa (h9 trivial);have cc:=e7.rd.code;obtain⟨t0,t1,t2,t3,t4,t5,t6⟩:=bl e7.tok;clear e0 d3 h1 h2 h9;have hm:=vD ix hl HV.out ⟨Ga,ta0,tm0,ts0,⟨dn0,dd0,dx0⟩⟩ d e7.rd H1.out (Zc b6.2.1 b6.2.2.1) n9.out;rw[show ly ⟨Ga,ta0,tm0,ts0,⟨dn0,dd0,dx0⟩⟩ =.agg #[(Ga:Int),(ta0:Int),.int .u8 tm0,ts0,.bool dn0,dd0,(dx0:Int)] from rfl] at hm;have Hm:=Qa hm;clear hm;go_wp2_with fail;refine Za Hm ?_;rintro e w5 ⟨s,Av,vn,vq,at5,k5,c5,rfl,g9,g8,d6,l0⟩;have k6:=Qa g9;have f2:=Qa g8;have f0:=Qa d6;have i2:=Qa l0;have b9:=Qa g9.atle;have hS:=(ap H1 g8.2 iQ).below' (aa w5 (.cells #[s] 9));have HS:=Qa hS;have o1:names.length<=100000:=by have:=H9.1;have:=b6.2.2.1;have:=f0.out;have:=b9.out;omega
     clear g9 g8 d6 l0 hS Hm cc t0 t1 t2 t3 t4 t5 t6;go_wp2_with (first
      |(at_builtin;refine ir uS HS.out (au w5 [.string s] 9) (by have:=b6.1.2.1;have:=f2.2.1;simp;omega) ?_ (h1:=(by simp[dy,Value.oneCell']));intro v5 w6 p1 p2 p3;have c7:=Qa p1;have d0:=Qa p2;have l2:=Qa p3;have m9:=p2.size;have HT:=Qa ((ap (ap H2 (f2.trans (Rk.of_below (aa w5 (.cells #[.string s] 9)) (Zj k6.lt))).2 (by unfold TR;decide)) (pp HS p2) (by decide)).below' (aa w6 (.cells #[.slice Av vn vq] 27)));clear p1 p2 p3)
      |(at_builtin;refine ir ej HT.out (au w6 [.slice Av vn vq] 27) (by have:=b6.1.2.1;have:=f2.2.1;simp at m9 ⊢;omega) ?_;intro v6 w7 p1 p2 p3;have Hq1:=Qa p1;have d1:=Qa p2;have c2:=OS.push (s:=s) (t:=⟨Ga,ta0,tm0,ts0,⟨dn0,dd0,dx0⟩⟩) H1.out H2.out b6.1 e7.tok b6.2.2.2.1 b6.2.2.2.2 H9.out (by have:=b6.2.1;have:=b6.2.2.1;have:=f0.out;omega) k6.out f2.out (fun h=>by obtain⟨j1,j2,j3,j,g1,g2,g3⟩:=i2 h;exact⟨by have:=H9.1;have:=b6.2.2.1;omega,j2,j3,j,g1,g2,by have:=b6.2.2.1;omega⟩) c7.out l2.out d0.out p1 p2;have HLS7:=Qa c2;have cc:=c2.rd.code;clear p1 p2 p3 c2))
     .have f1:¬c5=0:=by have h:(c5 !=0)=true:=(by assumption);simpa using h
      have Hc5:=Qa f1;clear f1;go_meet
      case rel=>exact HLS7.obj (fun h=>absurd h Hc5.out)
     have f1:c5=0:=by have h:(c5 !=0)=false:=(by assumption);simpa using h
     subst f1;have Hj:=Qa (i2 (by trivial)).1;have Hkle:=Qa HLS7.rd.kle;clear i2 c7 d0 l2 Hq1 d1 HT HS H1 H2 H9 cc;refine(dE HLS7.rd (by omega)).mono ?_;rintro e wn8 ⟨tn,at8,c8,rfl,e4,e5,b4,d2⟩;have b3:=Qa (HLS7.step e4 e5 b4);have o0:=Qa b4;obtain⟨tk8,ta8,tm8,ts8,⟨dn8,dd8,dx8⟩⟩:=tn;have Ht8:=Qa d2;clear e4 e5 b4 d2;rw[show ly ⟨tk8,ta8,tm8,ts8,⟨dn8,dd8,dx8⟩⟩ =.agg #[(tk8:Int),(ta8:Int),.int .u8 tm8,ts8,.bool dn8,dd8,(dx8:Int)] from rfl];have HLS8:=Qa (b3.put ⟨tk8,ta8,tm8,ts8,⟨dn8,dd8,dx8⟩⟩)
     by_cases hc8:c8=0
     case neg=>
      have j0:(c8 !=0)=true:=by simpa using hc8
      have Hc:=Qa hc8;clear hc8;go_wp2_with (refine wpList_store_rowTo rfl 201 (.tmp 7) (.tmp 59) rfl rfl tb (fd ⟨tk8,ta8,tm8,ts8,⟨dn8,dd8,dx8⟩⟩) (by simp[Act.eval]) (by simp[Act.eval,fd]) 201 _ b3.tok dD rfl (fS ..) ?_;generalize wn8.setRow tb (fd ⟨tk8,ta8,tm8,ts8,⟨dn8,dd8,dx8⟩⟩)=w8 at *;have cc:=HLS8.rd.code;obtain⟨t0,t1,t2,t3,t4,t5,t6⟩:=bl HLS8.tok;clear b3);go_meet
      case rel=>exact HLS8.obj (fun h=>absurd h Hc.out)
     subst hc8;go_wp2_with (refine wpList_store_rowTo rfl 201 (.tmp 7) (.tmp 59) rfl rfl tb (fd ⟨tk8,ta8,tm8,ts8,⟨dn8,dd8,dx8⟩⟩) (by simp[Act.eval]) (by simp[Act.eval,fd]) 201 _ b3.tok dD rfl (fS ..) ?_;generalize wn8.setRow tb (fd ⟨tk8,ta8,tm8,ts8,⟨dn8,dd8,dx8⟩⟩)=w8 at *;have cc:=HLS8.rd.code;obtain⟨t0,t1,t2,t3,t4,t5,t6⟩:=bl HLS8.tok;clear b3);have mk8:∀ (X:Int) (W:Wd),Calls prog 145 #[.agg #[(tk8:Int),(ta8:Int),.int .u8 tm8,ts8,.bool dn8,dd8,(dx8:Int)],.int .u8 X] W fun e w'=>iW ⟨tk8,ta8,tm8,ts8,⟨dn8,dd8,dx8⟩⟩ X W e w':=fun X W=>gd ⟨tk8,ta8,tm8,ts8,⟨dn8,dd8,dx8⟩⟩ X W
     have Mk8:=Qa mk8;clear mk8;refine(Mk8 125 w8).mono ?_;rintro e w9 ⟨b1,rfl,m2,m0⟩;have HLS9:=Qa (HLS8.below m0);have Hm1:=Qa m2;clear cc t0 t1 t2 t3 t4 t5 t6 m2 m0;have cc:=HLS9.rd.code;obtain⟨t0,t1,t2,t3,t4,t5,t6⟩:=bl HLS9.tok
     cases b1
     case true=>
      have Hm:=Qa (Hm1 rfl);go_wp2_with fail;go_meet
      case rel=>exact HLS9.obj (fun _=>⟨by trivial,by have h1:=(Ht8 (by trivial)).1;have h2:=Hm.out;have h3:=Hkle.out;have h4:at5+1<=at8:=h1 (by show ¬tk8=5;have:tk8=1:=h2;omega);omega⟩)
     go_wp2_with fail;refine(Mk8 44 w9).mono ?_;rintro e w10 ⟨b2,rfl,i9,d4⟩;have a9:=Qa (HLS9.below d4);have l3:=Qa i9;clear cc t0 t1 t2 t3 t4 t5 t6 i9 d4;have cc:=a9.rd.code;obtain⟨t0,t1,t2,t3,t4,t5,t6⟩:=bl a9.tok
     cases b2
     case false=>
      have wr:Calls prog 113 #[.pointer (some (nl rb)),.agg #[(tk8:Int),(ta8:Int),.int .u8 tm8,ts8,.bool dn8,dd8,(dx8:Int)]] w10 (kR xs rb w10 at8 k5):=fV a9.rd ⟨tk8,ta8,tm8,ts8,⟨dn8,dd8,dx8⟩⟩;have Wr:=Qa wr;clear wr;go_wp2_with fail;refine Za Wr ?_;rintro e w11 ⟨⟨v,rfl⟩,c11,d7,e6,e2⟩;have HLS11:=Qa (a9.step e6 e2 (Zb _));have Hc11:=Qa d7;clear e6 e2 d7;go_wp2_with fail;go_meet
      case rel=>exact HLS11.obj (fun h=>absurd h Hc11.out)
     have e8:=Qa (show at5+1<=at8 from(Ht8 (by trivial)).1 (by show ¬tk8=5;have:tk8=1:=l3 rfl;omega));clear Mk8 Hm1 l3 Ht8;go_wp2_with fail;refine(dE a9.rd (by omega)).mono ?_;rintro e wn12 ⟨tn,at12,c12,rfl,e4,e5,b4,d2⟩;have b3:=Qa (a9.step e4 e5 b4);have c0:=Qa b4;obtain⟨tk12,ta12,tm12,ts12,⟨dn12,dd12,dx12⟩⟩:=tn;have i0:=Qa d2;clear e4 e5 b4 d2;rw[show ly ⟨tk12,ta12,tm12,ts12,⟨dn12,dd12,dx12⟩⟩ =.agg #[(tk12:Int),(ta12:Int),.int .u8 tm12,ts12,.bool dn12,dd12,(dx12:Int)] from rfl];have b5:=Qa (b3.put ⟨tk12,ta12,tm12,ts12,⟨dn12,dd12,dx12⟩⟩);clear cc t0 t1 t2 t3 t4 t5 t6;go_wp2_with (refine wpList_store_rowTo rfl 201 (.tmp 7) (.tmp 77) rfl rfl tb (fd ⟨tk12,ta12,tm12,ts12,⟨dn12,dd12,dx12⟩⟩) (by simp[Act.eval]) (by simp[Act.eval,fd]) 201 _ b3.tok dD rfl (fS ..) ?_;generalize wn12.setRow tb (fd ⟨tk12,ta12,tm12,ts12,⟨dn12,dd12,dx12⟩⟩)=w12 at *;have cc:=b5.rd.code;obtain⟨t0,t1,t2,t3,t4,t5,t6⟩:=bl b5.tok;clear b3);exact⟨⟨_,_,_,_,_,b5,fun h=>⟨fun _=>by have:=Hkle.out;have:=e8.out;have:=c0.out;omega,(i0 h).2⟩⟩,by show nX xs.length rb _<nX xs.length rb _;exact e7.rd.mu_lt' b5.rd (by have:=Hj.out;have:=e8.out;have:=c0.out;omega)⟩
  case rest=>
   obtain⟨A,n,q,A6,q6,names,vs,ts,at9,k9,c9,rfl,rfl,h1,h2,h3,h4,h5,h6⟩:=hcut;have hn:n=names.length:=by have:=h1.1;simpa using this.symm
   subst hn;have HT:=Qa h6;have c4:=Qa h3;have h0:=Qa h4;have H1:=Qa h1;have H2:=Qa h2;have e3:=Qa h5;have cc:=h3.code;clear h1 h2 h3 h4 h5 h6
   by_cases hc:c9=0
   case neg=>
    have j0:(c9 !=0)=true:=by simpa using hc
    have Hc:=Qa hc;clear hc;go_wp2;go_ret;exact⟨none,0,0,at9,k9,c9,rfl,c4,h0,e3,fun h=>absurd h Hc.out⟩
   subst hc;obtain⟨g0,g1,g2,g3,g4,g5,g6⟩:=HT rfl;have G0:=Qa g0;have G2:=Qa g2;have G3:=Qa g3;have G4:=Qa g4;have G5:=Qa g5;have G6:=Qa g6;have hnl:names.length<=100000:=by have:=c4.atle;omega
   have k2:names.length=ts.length:=by have h:=g5.1;rw[List.length_map] at h;have:=H2.1;omega
   have k1:=Qa k2;clear g0 g1 g2 g3 g4 g5 g6 HT k2 H f4 c6 f5 b9 b8;have b7:=aa wc (.cells #[(4:Int),(d:Int),(6:Int),es,()] 262);have b0:=c4.lt;obtain⟨a1,a2,a3,a4,a5,a6,a7,L,m,hh,l,us,w0,h1,h2,h3,h4,h5,h6,h7⟩:=c4.out;have c12:=ac h1 (j:=12) (u:=.slice a3 _ a4) rfl;have g1:=(b7.block _ b0).trans h1;have H:=x9 g1 h2 h3 (h4.trans (b7.mono (Zj b0))) (aq h5 b7 (Zb _)) h6;have f4:=Qa (au wc [(4:Int),(d:Int),(6:Int),es,()] 262);have c6:=Qa b7;have f5:=Qa (show rb+1<=wc.heap.size from b0);have b9:=Qa h6;clear h1 h2 h3 h4 h5 h6 h7 b7 g1 b0;go_wp2_with (at_builtin;refine ir ki H.2.2.2.2.1 f4.out (Zc f5 c6.size) ?_ (hlen:=(by have:=G0.out;have:=b9.out;unfold maxLen;omega)) (hby:=(by have:=G0.out;have:=b9.out;omega));intro v' w7 p1 p2 p3;have c7:=Qa p1;have d0:=Qa p2;(obtain⟨A',c',he,-⟩:=ai p1);subst he;have a0:=ke H.1 H.2.1 H.2.2.1 H.2.2.2.1 H.2.2.2.2.1 H.2.2.2.2.2 G0.out c7.out d0.out;have r12:=ac a0.1 (j:=12) (u:=.slice a3 k9 a4) rfl;have f12:=ao a0.1 12;have b8:=Qa a0;clear p1 p2 p3 a0);have d9:=(Rk.of_below c6 (Zj c4.lt)).trans b8.2.2;have k4:=Qa d9;have m5:=Qa (ap H1.out d9.2 iQ);have n3:=Qa (ap H2.out d9.2 (by unfold TR;decide));have n0:=Qa (G5.mono fun _ _ h=>h.flat.keeps d9.2 iQ lO lJ);have hsz:JV.sizes ts<=100000:=by have:=G6.out;have:=c4.atle;omega
   clear d9 c12 r12 f12;have l5:=xA (Sl.of_own m5) (ts:=ts) ⟨vs,Sl.of_own n3,n0.mono fun _ _ h=>h.low (Zk _)⟩ k1.out G3.out (by omega) (by omega) (fun t ht x hx=>by
    obtain⟨q1,q2⟩:=oZ (G4 t ht) 0 x hx;have:=fG ht;exact⟨by omega,fun z hz=>by have:=q2 z hz;omega⟩)
   refine l5.mono ?_;rintro e w8 ⟨A8,n8,q8,ok,rfl,g7,d3,-,k7⟩;obtain rfl:ok=true:=d3.2 G2.out;obtain⟨ps,hs,k0⟩:=k7 rfl;have Hs:=Qa hs;have n1:=Qa (b8.2.1.below g7);have n6:=Qa ((h0.trans k4).trans (Rk.of_below g7 (Zj b8.2.1.lt)));have n7:=Qa ((k0.low (Zj b8.2.1.lt)).imp (Q:=(w.heap.size<= ·)) (fun g h _=>Zc (h0.trans k4).2.1 h));have i3:=Qa (mJ.sizes k1.out hs);clear g7 k0 l5 d3 k7 hs;go_wp2;go_ret;exact⟨A8,n8,q8,at9,k9+1,0,rfl,n1,n6,e3,fun _=>⟨trivial,.mk 6 false es jx (ps.map Prod.fst) (ps.map Prod.snd),.obj _ _ (by simp) (fun s hs=>G3 s (i3.2.2.mem_iff.1 hs)) Hs.2 (fun u hu=>G4 u (i3.2.1.mem_iff.1 hu)),n7.out,by have:=G6.out;have:=i3.1;simp only[JV.size];omega⟩⟩
theorem CY (t:Tk){k:Nat}{c:Int}(h:Rd xs rb w at_ k c)(hc:c≠0)(d:Int) :
  Calls prog 112 #[.pointer (some (nl rb)),ly t,(d:Int)] w (kr ix xs rb w at_ (t.kind≠5)):=by
 have hlt:=h.lt;have a0:=aa w (.cells (fd t) 201);have HR:=Qa (h.below a0);have a1:=Qa (Rk.of_below a0 (Zj hlt));have cc:=(h.below a0).code;clear h a0;obtain⟨tk,ta,tm,ts,⟨dn,dd,dx⟩⟩:=t;unfold ly;simp only[fd] at HR a1 cc;have a2:(c !=0)=true:=by simpa using hc
 have Hc:=Qa hc;clear hc;go_in;go_wp2;go_ret;exact⟨_,_,_,at_,k,c,rfl,HR,a1,Zb _,fun h=>absurd h Hc.out⟩
theorem yi (hl:xs.length<=6000):∀ (n at_:Nat),xs.length+1<=at_+n->∀ (t:Tk) (w:Wd) (k:Nat) (c d:Int),Rd xs rb w at_ k c->(c=0->(t.kind≠5->k+1<=at_)/\kv t)->
  Calls prog 112 #[.pointer (some (nl rb)),ly t,(d:Int)] w (kr ix xs rb w at_ (t.kind≠5)):=by
 intro n
 induction n with
 |zero=>intro at_ hn t w k c d h;have:=h.atle;omega
 |succ n ih=>
  intro at_ hn t w k c d h hk;have hV:∀ (jy:Nat) (t:Tk) (w:Wd) (k:Nat) (c:Int) (d:Int),(c=0->t.kind≠5->at_+1<=jy)->Rd xs rb w jy k c->(c=0->(t.kind≠5->k+1<=jy)/\kv t)->
    Calls prog 112 #[.pointer (some (nl rb)),ly t,(d:Int)] w (kr ix xs rb w jy (t.kind≠5)):=by
   intro jy t1 w1 k1 c1 d1 h1 h2 h3
   by_cases hc:c1=0
   .by_cases h5:t1.kind=5
    .exact qm ix hl t1 (fun e=>absurd (e.symm.trans h5) (by decide)) (fun e=>absurd (e.symm.trans h5) (by decide)) h2 h3 d1
    .exact ih jy (by have:=h1 hc h5;omega) t1 w1 k1 c1 d1 h2 h3
   .exact CY t1 h2 hc d1
  exact qm ix hl t (fun _ w k d h hk=>C6 ix hl hV d h hk) (fun _ w k d h hk=>xO hl hV d h hk) h hk d
def Gd (a b c d x f:Int)(i:Fin 6):Int:=match i with|0=>a|1=>b|2=>c|3=>d|4=>x|5=>f
theorem Rd.fault {k:Nat}{c:Int}(h:Rd xs rb w at_ k c)(c' h' l':Int)(A:OA)(n q:Nat):∃old:Array Value,w.heap[rb]?=some (.cells old 165 (0,0))/\13+4=old.size/\
  Rd xs rb (w.setRow rb (old.toList.take 13++ (#[(c':Int),(h':Int),(l':Int),.slice A n q]:Array Value).toList).toArray) at_ k c'/\Rk rb w (w.setRow rb (old.toList.take 13++ (#[(c':Int),(h':Int),(l':Int),.slice A n q]:Array Value).toList).toArray):=by
 obtain⟨a1,a2,a3,a4,a5,a6,a7,L,m,hh,l,us,w0,h1,h2,h3,h4,h5,h6⟩:=h;have hs:=Rk.setRow h1 (fo (.slice a1 xs.length a2) at_ L m (.slice a3 k a4) c' h' l' (.slice A n q));exact⟨_,h1,rfl,⟨a1,a2,a3,a4,A,n,q,L,m,h',l',us,w0,setRow_heap _ _ _ _ _ _ h1,h2,h3,h4.trans hs.1,o9 _ h5,h6⟩,hs⟩
theorem Rd.set8 {k:Nat}{c:Int}(h:Rd xs rb w at_ k c)(X:Int):(∃u,w.cell? (no rb 8)=some u)/\w.frozen? (no rb 8)=false/\Rd xs rb (w.setCell (no rb 8) (X:Int)) at_ k c/\Rk rb w (w.setCell (no rb 8) (X:Int)):=by
 obtain⟨a1,a2,a3,a4,a5,a6,a7,L,m,hh,l,us,w0,h1,h2,h3,h4,h5,h6⟩:=h;exact⟨⟨_,ac h1 (j:=8) (u:=(m 0:Int)) rfl⟩,ao h1 8,⟨a1,a2,a3,a4,a5,a6,a7,L,fun i=>if i=0 then X else m i,hh,l,us,w0,az h1 8 (X:Int),h2,h3,h4.trans (Rk.set h1 8 _).1,kg h5,h6⟩,Rk.set h1 8 _⟩
theorem Rk.row_other {tb:Nat}{T:TypeId}{z:Nat×Nat}(h:w.heap[tb]?=some (.cells cs T z))(hr:rb<tb)(new:Array Value):Below rb w (w.setRow tb new):=
 (Ze rb w).grown (aj ..) (Zj (Nat.lt_trans hr (ah h))) (fun g e=>by cases e;exact Zj hr)
theorem ET {tb:Nat}{z:Nat×Nat}(h:w.heap[tb]?=some (.cells cs 201 z))(new:Array Value):aK (fun e=>e=201) w (w.setRow tb new):=
 aK.of_grown (aj ..) (fun g e cs' t z hh=>by cases e;rw[h] at hh;injection hh with hh;injection hh with _ hh;exact hh.symm)
def I7 (xs:Na)(w:Wd)(e:Ending)(w':Wd):Prop:= ∃ (rb:Nat) (A:OA) (n q at' k':Nat) (c:Int),e =.returned (.tuple #[.pointer (some (nl rb)),.slice A n q])/\Rd xs rb w' at' k' c/\w.heap.size<=rb/\ge w w'/\
 (c=0->∃j:JV,cW ix j/\bo (w.heap.size<= ·) w' w.heap.size (.slice A n q) (j.flat 0)/\j.size<=xs.length+1)
theorem B6 (hb:Bs w v xs)(hl:xs.length<=6000)(a b c d x f:Int):Calls prog 83 #[v,ph a b c d x f] w (I7 xs w):=by
 obtain⟨hm,A,cap,rfl,i9,-⟩:=id hb;have h9:=aa w (.cells #[(a:Int),(b:Int),(c:Int),(d:Int),(x:Int),(f:Int)] 117);have c6:=Qa (au w [(a:Int),(b:Int),(c:Int),(d:Int),(x:Int),(f:Int)] 117);have b6:=Qa h9;have Hb:=Qa hb;clear hb h9;unfold ph;go_in;go_wp2_with fail;generalize hw1:(w.alloc (.cells #[(a:Int),(b:Int),(c:Int),(d:Int),(x:Int),(f:Int)] 117))=w1 at *;have j1:w1.heap.size=w.heap.size+1:=by rw[<-hw1];simp
 clear hw1;have b9:=Qa (show(fun w':Wd=>w'.cell? (nl w.heap.size)=some (.int .i64 a)/\w'.cell? (no w.heap.size 1)=some (.int .i64 b)/\w'.cell? (no w.heap.size 2)=some (.int .i64 c)/\w'.cell? (no w.heap.size 3)=some (.int .i64 d)/\w'.cell? (no w.heap.size 4)=some (.int .i64 x)/\w'.cell? (no w.heap.size 5)=some (.int .i64 f)) w1.drew from⟨c6 0 _ rfl,c6 1 _ rfl,c6 2 _ rfl,c6 3 _ rfl,c6 4 _ rfl,c6 5 _ rfl⟩);have b6:=Qa (b6.trans ((Ze w1.heap.size w1).drew.mono (Zc (by omega) (Zb _))));generalize hwq:w1.drew=wq at b9 b6;refine aI (fun w'=>w'.cell? (nl w.heap.size)=some (.int .i64 a)/\w'.cell? (no w.heap.size 1)=some (.int .i64 b)/\w'.cell? (no w.heap.size 2)=some (.int .i64 c)/\w'.cell? (no w.heap.size 3)=some (.int .i64 d)/\w'.cell? (no w.heap.size 4)=some (.int .i64 x)/\w'.cell? (no w.heap.size 5)=some (.int .i64 f)) ((by rw[hwq];exact b9.out)) fun a1=>?_
 refine tH 0 a1 ?_;refine tH 1 a1 ?_;refine rH 2 fun K hK=>?_
 go_simp;rw[hwq] at a1;refine(fw 0 _).mono ?_;rintro e w2 ⟨u,rfl,⟨fh,fl,fs,rfl,h6⟩,c1⟩;obtain⟨fA,fq,fr,rfl,-⟩:=h6.slice;have e6:=Qa c1;clear h6;unfold dV;go_simp;refine hK _ _ (⟨Zg c1 a1.1,Zg c1 a1.2.1,Zg c1 a1.2.2.1,Zg c1 a1.2.2.2.1,Zg c1 a1.2.2.2.2.1,Zg c1 a1.2.2.2.2.2⟩) (fun a1=>?_);clear hK K
 try simp only[Act.put,jP,jQ,jR]
 refine tH 3 a1 ?_;refine rH 4 fun K hK=>?_
 go_simp;refine hK _ _ (⟨Zg (aa _ _) a1.1,Zg (aa _ _) a1.2.1,Zg (aa _ _) a1.2.2.1,Zg (aa _ _) a1.2.2.2.1,Zg (aa _ _) a1.2.2.2.2.1,Zg (aa _ _) a1.2.2.2.2.2⟩) (fun a1=>?_);clear hK K
 try simp only[Act.put,jP,jQ,jR]
 refine tH 5 a1 ?_;refine y5 ?_;have d9:=Zf w2 (.cells (fo (.slice A xs.length cap) 0 (Gd a b c d x f) (fun _=>0) () 0 fh fl (.slice fA fq fr)) 165);have g5:ge w (w2.alloc (.cells (fo (.slice A xs.length cap) 0 (Gd a b c d x f) (fun _=>0) () 0 fh fl (.slice fA fq fr)) 165)):=(b6.trans (e6.mono b6.size)).alloc (Zc b6.size e6.size) _;have i2:Rd xs w2.heap.size (w2.alloc (.cells (fo (.slice A xs.length cap) 0 (Gd a b c d x f) (fun _=>0) () 0 fh fl (.slice fA fq fr)) 165)) 0 0 0:=
  ⟨A,cap,none,0,fA,fq,fr,Gd a b c d x f,fun _=>0,fh,fl, [],w2,d9,(Hb.below (b6.trans (e6.mono b6.size))),Zb _,aa _ _,⟨rfl,.inl ⟨rfl,rfl⟩⟩,Zk _,Zb _⟩
 have a0:w.heap.size<=w2.heap.size:=Zc b6.size e6.size;have h0:=Qa i2;have f9:=Qa g5;obtain⟨l0,l1,l2,l3,l4,l5⟩:=a1;clear d9 g5 i2 b9 hwq;go_wp2_with fail;refine(If a b c d x f _).mono ?_;rintro e w4 ⟨ok,rfl,b2⟩;have f3:=Qa (h0.below b2);have a9:=Qa (f9.trans (b2.mono f9.size));have m0:=Zg b2 l0;have m1:=Zg b2 l1;have m2:=Zg b2 l2;have m3:=Zg b2 l3;have m4:=Zg b2 l4;have m5:=Zg b2 l5;clear b2 l0 l1 l2 l3 l4 l5 h0 f9;generalize w2.heap.size=rb at *
 cases ok
 case false=>
  go_wp2_with fail;refine(fw 127 _).mono ?_;rintro e w5 ⟨u,rfl,⟨gh,gl,gs,rfl,d2⟩,b8⟩;obtain⟨gA,gq,gr,rfl,-⟩:=d2.slice;have e3:=Qa (f3.below b8);have b3:=Qa (a9.trans (b8.mono a9.size));obtain⟨old,ho,e0,c7,d0⟩:=e3.fault 127 gh gl gA gq gr;have Ho:=Qa ho;have d3:=Qa e0;have d6:=Qa c7;have i5:=Qa d0;clear d2 b8 ho e0 c7 d0 m0 m1 m2 m3 m4 m5;unfold dV;go_wp2_with (refine dG rfl 66 (.tmp 22) (.tmp 20) rfl rfl rb 13 #[(127:Int),(gh:Int),(gl:Int),.slice gA gq gr] _ (by simp[Act.eval]) (by simp[Act.eval]) 165 old Ho.out bB d3.out (oG _ _ _ rfl) rfl ?_);go_ret2;exact⟨rb,none,0,0,0,0,127,rfl,d6,a0,b3.trans (i5.1.mono a0),fun h=>absurd h (by decide)⟩
 go_wp2_with fail;refine(ie a b c d x f 1 _ _).mono ?_;rintro e w5 ⟨c5,u,rfl,⟨gh,gl,gs,rfl,d2⟩,b8⟩;obtain⟨gA,gq,gr,rfl,-⟩:=d2.slice;have e3:=Qa (f3.below b8);have b3:=Qa (a9.trans (b8.mono a9.size));obtain⟨old,ho,e0,c7,d0⟩:=e3.fault c5 gh gl gA gq gr;have Ho:=Qa ho;have d3:=Qa e0;have d6:=Qa c7;have a6:=Qa (b3.trans (d0.1.mono a0));have cc:=c7.code;clear d2 b8 ho e0 c7 d0 m0 m1 m2 m3 m4 m5;unfold dV
 by_cases hc:c5=0
 case neg=>
  have g9:(c5 !=0)=true:=by simpa using hc
  have Hc:=Qa hc;clear hc;go_wp2_with (refine dG rfl 66 (.tmp 30) (.tmp 28) rfl rfl rb 13 #[(c5:Int),(gh:Int),(gl:Int),.slice gA gq gr] _ (by simp[Act.eval]) (by simp[Act.eval]) 165 old Ho.out bB d3.out (oG _ _ _ rfl) rfl ?_);go_ret2;exact⟨rb,none,0,0,0,0,c5,rfl,d6,a0,a6,fun h=>absurd h Hc.out⟩
 subst hc;go_wp2_with (refine dG rfl 66 (.tmp 30) (.tmp 28) rfl rfl rb 13 #[(0:Int),(gh:Int),(gl:Int),.slice gA gq gr] _ (by simp[Act.eval]) (by simp[Act.eval]) 165 old Ho.out bB d3.out (oG _ _ _ rfl) rfl ?_);generalize (w5.setRow rb (old.toList.take 13++ (#[(0:Int),(gh:Int),(gl:Int),.slice gA gq gr]:Array Value).toList).toArray)=w6 at *;clear cc Ho d3 e3 b3 f3 a9;refine(dE d6 (by omega)).mono ?_;rintro e w7 ⟨t,lP,c2,rfl,g4,i0,f2,h8⟩;have e5:=Qa g4;have g3:=Qa i0;have g7:=Qa h8;obtain⟨tk,ta,tm,ts,⟨dn,dd,dx⟩⟩:=t;rw[show ly ⟨tk,ta,tm,ts,⟨dn,dd,dx⟩⟩ =.agg #[(tk:Int),(ta:Int),.int .u8 tm,ts,.bool dn,dd,(dx:Int)] from rfl];have c0:=aa w7 (.cells #[(tk:Int),(ta:Int),.int .u8 tm,ts,.bool dn,dd,(dx:Int)] 201);have d4:=Qa (Zf w7 (.cells #[(tk:Int),(ta:Int),.int .u8 tm,ts,.bool dn,dd,(dx:Int)] 201));have i8:=Qa (e5.below c0);have f6:=Qa (g3.trans (Rk.of_below c0 (Zj e5.lt)));have d5:=Qa e5.lt;clear g4 i0 h8 f2 c0 e5 g3 d6;obtain⟨t0,t1,t2,t3,t4,t5,t6⟩:=bl (t:=⟨tk,ta,tm,ts,⟨dn,dd,dx⟩⟩) d4.out;go_upto_region 10 with fail
 generalize (w7.alloc (.cells #[(tk:Int),(ta:Int),.int .u8 tm,ts,.bool dn,dd,(dx:Int)] 201))=w8 at *;generalize w7.heap.size=tb at *;have hv:∀lv:Int,Calls prog 112 #[.pointer (some (nl rb)),.agg #[(tk:Int),(ta:Int),.int .u8 tm,ts,.bool dn,dd,(dx:Int)],(lv:Int)] w8 (kr ix xs rb w8 lP (¬tk=5)):=fun lv=>yi hl (xs.length+1) lP (by omega) ⟨tk,ta,tm,ts,⟨dn,dd,dx⟩⟩ w8 0 c2 lv i8.out (fun h=>⟨fun h'=>by have:=(g7 h).1 h';omega,(g7 h).2⟩)
 have Hv:=Qa hv;clear hv;go_wp2_with fail;refine(Hv _).mono ?_;rintro e w9 ⟨A3,n3,q3,Kw,k3,c3,rfl,g2,f4,e7,h4⟩;have f1:=Qa g2;have g6:=Qa (f6.trans f4);have g8:=Qa h4;have g0:=Qa (f4.row d4.out da);have j2:=Qa f6.2.1;have cc:=g2.code;clear g2 f4 h4 e7 t0 t1 t2 t3 t4 t5 t6 Hv
 by_cases hc:c3=0
 case neg=>
  have g9:(c3 !=0)=true:=by simpa using hc
  have Hc:=Qa hc;clear hc;go_wp2_with fail;go_ret2;exact⟨rb,none,0,0,Kw,k3,c3,rfl,f1,a0,a6.trans (g6.1.mono a0),fun h=>absurd h Hc.out⟩
 subst hc;obtain⟨-,j,hg,hf,hsz⟩:=g8 rfl;have j3:=f1.atle;have Hg:=Qa hg;have Hf:=Qa hf;clear hg hf g8;go_wp2_with fail;refine(dE f1 (by omega)).mono ?_;rintro e w10 ⟨t,at4,c4,rfl,b7,b4,j0,-⟩;have a4:=b4.row g0.out da;obtain⟨tk4,ta4,tm4,ts4,⟨dn4,dd4,dx4⟩⟩:=t;rw[show ly ⟨tk4,ta4,tm4,ts4,⟨dn4,dd4,dx4⟩⟩ =.agg #[(tk4:Int),(ta4:Int),.int .u8 tm4,ts4,.bool dn4,dd4,(dx4:Int)] from rfl];have h7:=b7.lt;have a5:=Qa (b7.other a4 da (Zj d5) (fd ⟨tk4,ta4,tm4,ts4,⟨dn4,dd4,dx4⟩⟩));have g1:=Qa ((g6.trans b4).1);have f5:=Qa b4;have i4:=Qa (ET a4 (fd ⟨tk4,ta4,tm4,ts4,⟨dn4,dd4,dx4⟩⟩));have c8:w.heap.size<=w8.heap.size:=Zc a6.size f6.2.1;have e4:=Qa a4;have b0:=Qa (setRow_heap _ _ _ (fd ⟨tk4,ta4,tm4,ts4,⟨dn4,dd4,dx4⟩⟩) _ _ a4);clear b7 b4 a4;have b1:=Qa (g1.trans (Rk.row_other e4 d5 (fd ⟨tk4,ta4,tm4,ts4,⟨dn4,dd4,dx4⟩⟩)))
 by_cases hc:c4=0
 case neg=>
  have g9:(c4==0)=false:=by simpa using hc
  have Hc:=Qa hc;clear hc;go_wp2_with (refine wpList_store_rowTo rfl 201 (.tmp 8) (.tmp 51) rfl rfl tb (fd ⟨tk4,ta4,tm4,ts4,⟨dn4,dd4,dx4⟩⟩) (by simp[Act.eval]) (by simp[Act.eval,fd]) 201 _ e4.out dD rfl (fS ..) ?_;generalize w10.setRow tb (fd ⟨tk4,ta4,tm4,ts4,⟨dn4,dd4,dx4⟩⟩)=w11 at *;have cc:=a5.code;obtain⟨t0,t1,t2,t3,t4,t5,t6⟩:=bl (t:=⟨tk4,ta4,tm4,ts4,⟨dn4,dd4,dx4⟩⟩) b0.out;obtain⟨⟨u8,e8⟩,f8,a2,a3⟩:=a5.set8 (xs.length:Int);have b5:=Qa a2;have a7:=Qa a3;clear a2 a3);go_ret2;exact⟨rb,A3,n3,q3,at4,k3,c4,rfl,b5,a0,a6.trans ((b1.trans a7.1).mono a0),fun h=>absurd h Hc.out⟩
 subst hc
 by_cases h5:tk4=5
 .have i3:(tk4 !=5)=false:=by simp[h5]
  have H5:=Qa h5;clear h5;go_wp2_with (refine wpList_store_rowTo rfl 201 (.tmp 8) (.tmp 51) rfl rfl tb (fd ⟨tk4,ta4,tm4,ts4,⟨dn4,dd4,dx4⟩⟩) (by simp[Act.eval]) (by simp[Act.eval,fd]) 201 _ e4.out dD rfl (fS ..) ?_;generalize w10.setRow tb (fd ⟨tk4,ta4,tm4,ts4,⟨dn4,dd4,dx4⟩⟩)=w11 at *;have cc:=a5.code;obtain⟨t0,t1,t2,t3,t4,t5,t6⟩:=bl (t:=⟨tk4,ta4,tm4,ts4,⟨dn4,dd4,dx4⟩⟩) b0.out;obtain⟨⟨u8,e8⟩,f8,a2,a3⟩:=a5.set8 (xs.length:Int);have b5:=Qa a2;have a7:=Qa a3;clear a2 a3);go_ret2;refine⟨rb,A3,n3,q3,at4,k3,0,rfl,b5,a0,a6.trans ((b1.trans a7.1).mono a0),fun _=>⟨j,Hg,?_,by omega⟩⟩;have h1:=(Hf.keeps (show aK TR w9 w10 from f5.2) iQ lO lJ);have h2:=h1.keeps (T:=fun e=>e=201) (i4.out) (by decide) (by decide) (by decide);have h3:=h2.keeps a7.2 iQ lO lJ;exact(h3.low a0).imp (fun g a _=>Zc c8 a)
 .have i3:(tk4 !=5)=true:=by simpa using h5
  clear h5;have wr:∀W,Rd xs rb W at4 k3 0->Calls prog 113 #[.pointer (some (nl rb)),.agg #[(tk4:Int),(ta4:Int),.int .u8 tm4,ts4,.bool dn4,dd4,(dx4:Int)]] W (kR xs rb W at4 k3):=fun W h=>fV h ⟨tk4,ta4,tm4,ts4,⟨dn4,dd4,dx4⟩⟩
  have Wr:=Qa wr;clear wr;go_wp2_with (refine wpList_store_rowTo rfl 201 (.tmp 8) (.tmp 51) rfl rfl tb (fd ⟨tk4,ta4,tm4,ts4,⟨dn4,dd4,dx4⟩⟩) (by simp[Act.eval]) (by simp[Act.eval,fd]) 201 _ e4.out dD rfl (fS ..) ?_;generalize w10.setRow tb (fd ⟨tk4,ta4,tm4,ts4,⟨dn4,dd4,dx4⟩⟩)=w11 at *;have cc:=a5.code;obtain⟨t0,t1,t2,t3,t4,t5,t6⟩:=bl (t:=⟨tk4,ta4,tm4,ts4,⟨dn4,dd4,dx4⟩⟩) b0.out;obtain⟨⟨u8,e8⟩,f8,a2,a3⟩:=a5.set8 (xs.length:Int);have b5:=Qa a2;have a7:=Qa a3;clear a2 a3);refine(Wr _ a5).mono ?_;rintro e w12 ⟨⟨v,rfl⟩,c12,c9,e2,e1⟩;have Hc:=Qa c9;obtain⟨⟨u8',e8'⟩,f8',d7,d1⟩:=e2.set8 (xs.length:Int);have f7:=Qa d7;have f0:=Qa (e1.trans d1);clear e2 e1 c9 d7 d1 cc t0 t1 t2 t3 t4 t5 t6 e8 f8;go_wp2_with fail;go_ret2;exact⟨rb,A3,n3,q3,at4,k3,c12,rfl,f7,a0,a6.trans ((b1.trans f0.1).mono a0),fun h=>absurd h Hc.out⟩
theorem DK:(prog.info? 113).map (·.size)=some 4:=by kernel_rfl
theorem nj {fn:Func}{p m q:Tmp}(h:fn.results = #[.tmp m,.cell p 113,.cell q 66])(tmps:Array Value)(w:Wd)(g1 g:Nat)(t1 t:TypeId)(d0 d1 d2 d3 c0 c1 c2 c3:Value)(fr1 fr:Nat×Nat)
  (a1:tmps.getD p undef =.pointer (some (nl g1))) (a3:w.heap[g1]?=some (.cells #[d0,d1,d2,d3] t1 fr1))
  (hp:tmps.getD q undef =.pointer (some (nl g))) (hg:w.heap[g]?=some (.cells #[c0,c1,c2,c3] t fr)) :
  (results fn tmps).run prog w =.ok (.tuple #[tmps.getD m undef,.agg #[d0,d1,d2,d3],.agg #[c0,c1,c2,c3]]) w:=by
 have a0:tmps[p]?.getD undef =.pointer (some (nl g1)):=by simpa using a1
 have a2:tmps[q]?.getD undef =.pointer (some (nl g)):=by simpa using hp
 have a4:=run_loadVar_row (P:=prog) w g1 t1 113 #[d0,d1,d2,d3] fr1 _ a3 underlying113 rfl DK;have hl:=run_loadVar_row (P:=prog) w g t 66 #[c0,c1,c2,c3] fr _ hg underlying66 rfl bB;simp[results,h,a0,a2,asAddr,a4,hl]
def jE (xs:Na)(w:Wd)(v:Value)(c:Int)(w':Wd):Prop:=ge w w'/\(∃A n q,v =.slice A n q)/\(c=0->∃j:JV,cW ix j/\bo (w.heap.size<= ·) w' w.heap.size v (j.flat 0)/\j.size<=xs.length+1)
theorem Lw (h:ge w w1)(X Y:Array Value):ge w ((w1.drew.setRow (w.heap.size+1) X).setRow (w.heap.size+2) Y):=by
 have h1:ge w w1.drew:=h.drew;have h2:=h1.grown (aj w1.drew (w.heap.size+1) X) h1.size (fun g e=>by cases e;omega);exact h2.grown (aj _ (w.heap.size+2) Y) h2.size (fun g e=>by cases e;omega)
theorem Lb {ns:List Nd}(h:bo P w1 base v ns){c1 c2:Array Value}(h1:w1.heap[w.heap.size+1]?=some (.cells c1 113 (0,0)))(h2:w1.heap[w.heap.size+2]?=some (.cells c2 66 (0,0)))(X Y:Array Value) :
  bo P ((w1.drew.setRow (w.heap.size+1) X).setRow (w.heap.size+2) Y) base v ns:=by
 have h0:bo P w1.drew base v ns:=h.below (Ze w1.heap.size w1).drew (Zb _);have k1:aK (fun e=>e=113) w1.drew (w1.drew.setRow (w.heap.size+1) X):=aK.of_grown (aj ..) (fun g e cs t z hh=>by cases e;have a0:w1.drew.heap[w.heap.size+1]?=_:=h1;rw[a0] at hh;injection hh with hh;injection hh with _ hh;exact hh.symm);have a1:(w1.drew.setRow (w.heap.size+1) X).heap[w.heap.size+2]?=some (.cells c2 66 (0,0)):=(setRow_other _ _ _ _ (by omega)).trans h2;have k2:aK (fun e=>e=66) (w1.drew.setRow (w.heap.size+1) X) ((w1.drew.setRow (w.heap.size+1) X).setRow (w.heap.size+2) Y):=aK.of_grown (aj ..) (fun g e cs t z hh=>by cases e;rw[a1] at hh;injection hh with hh;injection hh with _ hh;exact hh.symm);exact(h0.keeps k1 (by decide) (by decide) (by decide)).keeps k2 (by decide) (by decide) (by decide)
def K7 (xs:Na)(w:Wd)(e:Ending)(w':Wd):Prop:= ∃ (v:Value) (m0 m1 m2 m3 c h l:Int) (sA:OA) (sn sc:Nat),e =.returned (.tuple #[v,.agg #[(m0:Int),(m1:Int),(m2:Int),(m3:Int)],.agg #[(c:Int),(h:Int),(l:Int),.slice sA sn sc]])/\jE xs w v c w'
theorem yZ (hb:Bs w v xs)(hl:xs.length<=6000)(a b c d x f:Int):Calls prog 45 #[v,ph a b c d x f] w (K7 xs w):=by
 obtain⟨hm,A,cap,rfl,c4,-⟩:=id hb;have b4:ge w (((w.alloc (.cells #[(a:Int),(b:Int),(c:Int),(d:Int),(x:Int),(f:Int)] 117)).alloc (.cells #[(0:Int),(0:Int),(0:Int),(0:Int)] 113)).alloc (.cells #[(0:Int),(0:Int),(0:Int),()] 66)):=(((Ze _ _).alloc (Zb _) _).alloc (by simp) _).alloc (by simp;omega) _;have c1:=Zf (w.alloc (.cells #[(a:Int),(b:Int),(c:Int),(d:Int),(x:Int),(f:Int)] 117)) (.cells #[(0:Int),(0:Int),(0:Int),(0:Int)] 113);have b5:=Zf ((w.alloc (.cells #[(a:Int),(b:Int),(c:Int),(d:Int),(x:Int),(f:Int)] 117)).alloc (.cells #[(0:Int),(0:Int),(0:Int),(0:Int)] 113)) (.cells #[(0:Int),(0:Int),(0:Int),()] 66);have b6:=(Below.heap_alloc ((w.alloc (.cells #[(a:Int),(b:Int),(c:Int),(d:Int),(x:Int),(f:Int)] 117)).alloc (.cells #[(0:Int),(0:Int),(0:Int),(0:Int)] 113)) (.cells #[(0:Int),(0:Int),(0:Int),()] 66) (w.alloc (.cells #[(a:Int),(b:Int),(c:Int),(d:Int),(x:Int),(f:Int)] 117)).heap.size (by simp)).trans c1;have c0:(((w.alloc (.cells #[(a:Int),(b:Int),(c:Int),(d:Int),(x:Int),(f:Int)] 117)).alloc (.cells #[(0:Int),(0:Int),(0:Int),(0:Int)] 113)).alloc (.cells #[(0:Int),(0:Int),(0:Int),()] 66)).heap.size=w.heap.size+3:=by simp
 have Hb:=Qa (hb.below b4);have b2:=Qa b4;simp only[World.size_alloc] at b5 b6;have c5:=Qa b6;have c2:=Qa b5;have b8:=Qa c0;clear hb b4 c1 b5 b6 c0;have rd:∀W v,Bs W v xs->Calls prog 83 #[v,.agg #[(a:Int),(b:Int),(c:Int),(d:Int),(x:Int),(f:Int)]] W (I7 xs W):=fun W v h=>B6 h hl a b c d x f
 have c6:=Qa rd;clear rd;unfold ph;go_in;go_wp2_with fail;generalize (((w.alloc (.cells #[(a:Int),(b:Int),(c:Int),(d:Int),(x:Int),(f:Int)] 117)).alloc (.cells #[(0:Int),(0:Int),(0:Int),(0:Int)] 113)).alloc (.cells #[(0:Int),(0:Int),(0:Int),()] 66))=w0 at *;refine(c6 _ _ Hb).mono ?_;rintro e w1 ⟨rb,A3,n3,q3,Kw,k3,c3,rfl,hR,hrb,b3,hj⟩;obtain⟨a1,a2,a3,a4,sA,sn,sc,L,m,fh,fl,us,wx,a9,_⟩:=hR;have a5:=Qa a9;have cc:=ac a9 (j:=13) (u:=(c3:Int)) rfl;have b0:=Qa ((b3.block (w.heap.size+1) (by rw[b8.out];omega)).trans c5.out);have b1:=Qa ((b3.block (w.heap.size+2) (by rw[b8.out];omega)).trans c2.out);have b9:=Qa (b2.trans (b3.mono b2.size));have c7:w.heap.size+3<=rb:=by rw[<-b8.out];exact hrb
 have a7:=Qa (show ¬some rb=some (w.heap.size+1) from fun e=>by injection e with e;omega);have a6:=Qa (show ¬some rb=some (w.heap.size+2) from fun e=>by injection e with e;omega);have Hj:=Qa hj;clear a9 b3 hj hrb
 by_cases hc:c3=0
 case neg=>
  have c8:(c3 !=0)=true:=by simpa using hc
  have Hc:=Qa hc;clear hc;go_wp2_with fail;have b7:=Qa (show(fun w':Wd=>w'.cell? (no rb 13)=some (.int .i64 c3)/\w'.cell? (no rb 14)=some (.int .i64 fh)/\w'.cell? (no rb 15)=some (.int .i64 fl)/\w'.cell? (no rb 16)=some (.slice sA sn sc)) w1.drew from⟨ac a5 (j:=13) rfl,ac a5.out (j:=14) rfl,ac a5.out (j:=15) rfl,ac a5.out (j:=16) rfl⟩);refine aI (fun w'=>w'.cell? (no rb 13)=some (.int .i64 c3)/\w'.cell? (no rb 14)=some (.int .i64 fh)/\w'.cell? (no rb 15)=some (.int .i64 fl)/\w'.cell? (no rb 16)=some (.slice sA sn sc)) (b7.out) fun a0=>?_
  refine bw 0 1 2 a0 ?_;refine bw 3 4 5 a0 ?_;refine rH 6 fun K hK=>?_
  refine bZ (show w1.drew.heap[w.heap.size+1]?=_ from b0.out) ?_;refine hK _ _ (⟨(aj _ _ _).cell a0.1 (fun e=>a7 e),(aj _ _ _).cell a0.2.1 (fun e=>a7 e),(aj _ _ _).cell a0.2.2.1 (fun e=>a7 e),(aj _ _ _).cell a0.2.2.2 (fun e=>a7 e)⟩) (fun a0=>?_);clear hK K
  try simp only[Act.put,jP,jQ,jR]
  refine rH 7 fun K hK=>?_
  refine bZ ((setRow_other _ _ _ _ (by omega)).trans (show w1.drew.heap[w.heap.size+2]?=_ from b1.out)) ?_;refine hK _ _ (⟨(aj _ _ _).cell a0.1 (fun e=>a6 e),(aj _ _ _).cell a0.2.1 (fun e=>a6 e),(aj _ _ _).cell a0.2.2.1 (fun e=>a6 e),(aj _ _ _).cell a0.2.2.2 (fun e=>a6 e)⟩) (fun a0=>?_);clear hK K
  try simp only[Act.put,jP,jQ,jR]
  refine y5 ?_;clear a0;go_wp2_with fail;exact Zh (nj results45 _ _ (w.heap.size+1) (w.heap.size+2) _ _ _ _ _ _ _ _ _ _ (0,0) (0,0) rfl (by(first|exact(setRow_other _ _ _ _ (by omega)).trans (setRow_heap _ _ _ _ _ _ (show w1.drew.heap[w.heap.size+1]?=_ from b0.out)))) rfl (setRow_heap _ _ _ _ _ _ ((setRow_other _ _ _ _ (by omega)).trans (show w1.drew.heap[w.heap.size+2]?=_ from b1.out)))) rfl ⟨_,_,_,_,_,_,_,_,_,_,_,rfl,Lw b9 _ _,⟨_,_,_,rfl⟩,fun h=>absurd h Hc.out⟩
 subst hc;go_wp2_with fail;have b7:=Qa (show(fun w':Wd=>w'.cell? (no rb 8)=some (.int .i64 (m 0))/\w'.cell? (no rb 9)=some (.int .i64 (m 1))/\w'.cell? (no rb 10)=some (.int .i64 (m 2))/\w'.cell? (no rb 11)=some (.int .i64 (m 3))/\w'.cell? (no rb 13)=some (.int .i64 0)/\w'.cell? (no rb 14)=some (.int .i64 fh)/\w'.cell? (no rb 15)=some (.int .i64 fl)/\w'.cell? (no rb 16)=some (.slice sA sn sc)) w1.drew from⟨ac a5 (j:=8) rfl,ac a5.out (j:=9) rfl,ac a5.out (j:=10) rfl,ac a5.out (j:=11) rfl,ac a5.out (j:=13) rfl,ac a5.out (j:=14) rfl,ac a5.out (j:=15) rfl,ac a5.out (j:=16) rfl⟩);refine aI (fun w'=>w'.cell? (no rb 8)=some (.int .i64 (m 0))/\w'.cell? (no rb 9)=some (.int .i64 (m 1))/\w'.cell? (no rb 10)=some (.int .i64 (m 2))/\w'.cell? (no rb 11)=some (.int .i64 (m 3))/\w'.cell? (no rb 13)=some (.int .i64 0)/\w'.cell? (no rb 14)=some (.int .i64 fh)/\w'.cell? (no rb 15)=some (.int .i64 fl)/\w'.cell? (no rb 16)=some (.slice sA sn sc)) (b7.out) fun a0=>?_
 refine bw 0 1 2 a0 ?_;refine bw 3 4 5 a0 ?_;refine bw 6 7 8 a0 ?_;refine tH 9 a0 ?_;refine rH 10 fun K hK=>?_
 refine bZ (show w1.drew.heap[w.heap.size+1]?=_ from b0.out) ?_;refine hK _ _ (⟨(aj _ _ _).cell a0.1 (fun e=>a7 e),(aj _ _ _).cell a0.2.1 (fun e=>a7 e),(aj _ _ _).cell a0.2.2.1 (fun e=>a7 e),(aj _ _ _).cell a0.2.2.2.1 (fun e=>a7 e),(aj _ _ _).cell a0.2.2.2.2.1 (fun e=>a7 e),(aj _ _ _).cell a0.2.2.2.2.2.1 (fun e=>a7 e),(aj _ _ _).cell a0.2.2.2.2.2.2.1 (fun e=>a7 e),(aj _ _ _).cell a0.2.2.2.2.2.2.2 (fun e=>a7 e)⟩) (fun a0=>?_);clear hK K
 try simp only[Act.put,jP,jQ,jR]
 refine rH 11 fun K hK=>?_
 refine bZ ((setRow_other _ _ _ _ (by omega)).trans (show w1.drew.heap[w.heap.size+2]?=_ from b1.out)) ?_;refine hK _ _ (⟨(aj _ _ _).cell a0.1 (fun e=>a6 e),(aj _ _ _).cell a0.2.1 (fun e=>a6 e),(aj _ _ _).cell a0.2.2.1 (fun e=>a6 e),(aj _ _ _).cell a0.2.2.2.1 (fun e=>a6 e),(aj _ _ _).cell a0.2.2.2.2.1 (fun e=>a6 e),(aj _ _ _).cell a0.2.2.2.2.2.1 (fun e=>a6 e),(aj _ _ _).cell a0.2.2.2.2.2.2.1 (fun e=>a6 e),(aj _ _ _).cell a0.2.2.2.2.2.2.2 (fun e=>a6 e)⟩) (fun a0=>?_);clear hK K
 try simp only[Act.put,jP,jQ,jR]
 refine y5 ?_;clear a0;go_wp2_with fail;exact Zh (nj results45 _ _ (w.heap.size+1) (w.heap.size+2) _ _ _ _ _ _ _ _ _ _ (0,0) (0,0) rfl (by(first|exact(setRow_other _ _ _ _ (by omega)).trans (setRow_heap _ _ _ _ _ _ (show w1.drew.heap[w.heap.size+1]?=_ from b0.out)))) rfl (setRow_heap _ _ _ _ _ _ ((setRow_other _ _ _ _ (by omega)).trans (show w1.drew.heap[w.heap.size+2]?=_ from b1.out)))) rfl ⟨_,_,_,_,_,_,_,_,_,_,_,rfl,Lw b9 _ _,⟨_,_,_,rfl⟩,fun h=>by obtain⟨j,g1,g2,g3⟩:=Hj (by trivial);exact⟨j,g1,(Lb ((g2.low b2.size).imp (Q:=(w.heap.size<= ·)) (fun g a _=>Zc b2.size a)) b0.out b1.out _ _),g3⟩⟩
def Jo (w:Wd)(e:Ending)(w':Wd):Prop:= ∃a b c d x f:Int,e =ph a b c d x f/\ge w w'
theorem CO (w:Wd):Calls prog 46 #[] w (Jo w):=by
 go_in;go_wp2;exact Zh (results_cell_row results46 _ _ w.heap.size 117 #[(1073741824:Int),(1073741824:Int),(1073741824:Int),(1073741824:Int),(1073741824:Int),(4611686018427387903:Int)] (0,0) _ (by simp) (Zf w _) underlying117 rfl (by kernel_rfl)) rfl ⟨_,_,_,_,_,_,rfl,aa _ _⟩
def KY (xs:Na)(w:Wd)(e:Ending)(w':Wd):Prop:= ∃ (v:Value) (c h l:Int) (sA:OA) (sn sc:Nat),e =.returned (.tuple #[v,.agg #[(c:Int),(h:Int),(l:Int),.slice sA sn sc]])/\jE xs w v c w'
theorem jE.low {c:Int}(h:jE xs w1 v c w2)(hb:ge w w1):jE xs w v c w2:=by
 obtain⟨h1,h2,h3⟩:=h;exact⟨hb.trans (h1.mono hb.size),h2,fun e=>by obtain⟨j,g1,g2,g3⟩:=h3 e;exact⟨j,g1,(g2.low hb.size).imp (fun g a _=>Zc hb.size a),g3⟩⟩
theorem jE.below {c:Int}(h:jE xs w v c w1)(hb:ge w1 w2):jE xs w v c w2:=by
 obtain⟨h1,h2,h3⟩:=h;exact⟨h1.trans (hb.mono h1.size),h2,fun e=>by obtain⟨j,g1,g2,g3⟩:=h3 e;exact⟨j,g1,g2.below hb (Zb _),g3⟩⟩
theorem jE.setRow {c:Int}(h:jE xs w v c w1)(hg:w1.heap[g]?=some (.cells cs 66 (0,0)))(hw:w.heap.size<=g)(X:Array Value):jE xs w v c (w1.setRow g X):=by
 obtain⟨h1,h2,h3⟩:=h;have k1:aK (fun e=>e=66) w1 (w1.setRow g X):=aK.of_grown (aj ..) (fun x e cs t z hh=>by cases e;rw[hg] at hh;injection hh with hh;injection hh with _ hh;exact hh.symm);exact⟨h1.grown (aj ..) h1.size (fun x e=>by cases e;exact hw),h2,fun e=>by obtain⟨j,g1,g2,g3⟩:=h3 e;exact⟨j,g1,g2.keeps k1 (by decide) (by decide) (by decide),g3⟩⟩
theorem CV (hb:Bs w v xs)(hl:xs.length<=6000):Calls prog 22 #[v] w (KY xs w):=by
 have b3:=aa w (.cells #[(0:Int),(0:Int),(0:Int),()] 66);have Hb:=Qa (hb.below b3);have b4:=Qa b3;have b0:=Qa (Zf w (.cells #[(0:Int),(0:Int),(0:Int),()] 66));clear hb b3;go_in;go_wp2_with fail;generalize (w.alloc (.cells #[(0:Int),(0:Int),(0:Int),()] 66))=w1 at *;refine(CO w1).mono ?_;rintro e w2 ⟨a,b,c,d,x,f,rfl,a6⟩;have b1:=Qa (Hb.below a6);have a4:=Qa ((a6.block _ (ah b0)).trans b0.out);have b2:=Qa (b4.trans (a6.mono b4.size));clear a6 Hb b0 b4;go_wp2_with fail;refine(yZ b1 hl a b c d x f).mono ?_;rintro e w3 ⟨v3,m0,m1,m2,m3,c3,h3,l3,sA,sn,sc,rfl,ht⟩;have HT:=Qa (ht.low b2.out);have a0:=Qa ((ht.1.block _ (ah a4)).trans a4.out);have b6:w.heap.size<w3.heap.size:=ah a0.out;clear ht;go_wp2_with fail;have a9:ge w3 ((w3.alloc (.cells #[(m0:Int),(m1:Int),(m2:Int),(m3:Int)] 113)).alloc (.cells #[(c3:Int),(h3:Int),(l3:Int),.slice sA sn sc] 66)):=((Ze _ _).alloc (Zb _) _).alloc (by simp) _;have a3:=Zf (w3.alloc (.cells #[(m0:Int),(m1:Int),(m2:Int),(m3:Int)] 113)) (.cells #[(c3:Int),(h3:Int),(l3:Int),.slice sA sn sc] 66);rw[World.size_alloc] at a3;generalize ((w3.alloc (.cells #[(m0:Int),(m1:Int),(m2:Int),(m3:Int)] 113)).alloc (.cells #[(c3:Int),(h3:Int),(l3:Int),.slice sA sn sc] 66))=w4 at *;have b5:=Qa (HT.below a9);have a1:=Qa ((a9.block _ (ah a0)).trans a0.out);have b7:w.heap.size<w3.heap.size+1:=by omega
 have a5:=Qa (show ¬some (w3.heap.size+1)=some w.heap.size from fun e=>by injection e with e;omega);have a7:=Qa (show(fun w':Wd=>w'.cell? ⟨w3.heap.size+1,0,none⟩=some (.int .i64 c3)/\w'.cell? ⟨w3.heap.size+1,1,none⟩=some (.int .i64 h3)/\w'.cell? ⟨w3.heap.size+1,2,none⟩=some (.int .i64 l3)/\w'.cell? ⟨w3.heap.size+1,3,none⟩=some (.slice sA sn sc)) w4.drew from⟨ac a3 (j:=0) rfl,ac a3 (j:=1) rfl,ac a3 (j:=2) rfl,ac a3 (j:=3) rfl⟩);clear a9 a3 HT a0;refine aI (fun w'=>w'.cell? ⟨w3.heap.size+1,0,none⟩=some (.int .i64 c3)/\w'.cell? ⟨w3.heap.size+1,1,none⟩=some (.int .i64 h3)/\w'.cell? ⟨w3.heap.size+1,2,none⟩=some (.int .i64 l3)/\w'.cell? ⟨w3.heap.size+1,3,none⟩=some (.slice sA sn sc)) (a7.out) fun a2=>?_
 refine bw 0 1 2 a2 ?_;refine rH 3 fun K hK=>?_
 refine bZ (show w4.drew.heap[w.heap.size]?=_ from a1.out) ?_;refine hK _ _ (⟨(aj _ _ _).cell a2.1 a5,(aj _ _ _).cell a2.2.1 a5,(aj _ _ _).cell a2.2.2.1 a5,(aj _ _ _).cell a2.2.2.2 a5⟩) (fun a2=>?_);clear hK K
 try simp only[Act.put,jP,jQ,jR]
 refine y5 ?_;clear a2;go_wp2_with fail;exact Zh (bN results22 _ _ w.heap.size 66 _ _ _ _ (0,0) rfl (setRow_heap _ _ _ _ _ _ (show w4.drew.heap[w.heap.size]?=_ from a1.out))) rfl ⟨_,_,_,_,_,_,_,rfl,(b5.below (Ze w4.heap.size w4).drew).setRow a1 (Zb _) _⟩
theorem ru:∀ (l:List JV) (p q:Nat),q∈aZ p l->p<=q/\q<p+JV.sizes l
 | [],p,q,h=>by simp[aZ] at h
 |v::vs,p,q,h=>by
  simp only[aZ,List.mem_cons] at h;simp only[JV.sizes];have:=v.size_pos;rcases h with rfl|h
  .omega
  .have:=ru vs (p+v.size) q h;omega
theorem oI (v:JV):∀p,∀x∈v.flat p,∀q∈x.kids,p<q/\q<p+v.size:=by
 refine JV.ind (P:=fun v=> ∀p,∀x∈v.flat p,∀q∈x.kids,p<q/\q<p+v.size) (fun k t x n ns ks ih p y hy q hq=>?_) v;simp only[JV.flat,List.mem_cons] at hy;simp only[JV.size];rcases hy with rfl|hy
 .have:=ru ks (p+1) q hq;omega
 .suffices ∀ (l:List JV) p,(∀u∈l,∀p,∀x∈u.flat p,∀q∈x.kids,p<q/\q<p+u.size)->y∈JV.flats p l->p<q/\q<p+JV.sizes l by
   have:=this ks (p+1) ih hy;omega
  intro l
  induction l with
  |nil=>intro p _ h;simp[JV.flats] at h
  |cons v vs ih2=>
   intro p hu h;simp only[JV.flats,List.mem_append] at h;simp only[JV.sizes];rcases h with h|h
   .have:=hu v (by simp) p y h q hq;omega
   .have:=ih2 (p+v.size) (fun u hm=>hu u (Zm _ hm)) h;omega
def i6 (w:Wd)(base g n:Nat)(xs:Nb):Prop:=w.ownsRow base 3 1 (.slice (some (nl g)) n n) n xs/\∀x∈xs,∃i:Int,x =(i:Int)
theorem i6.get {xs:Nb}(h:i6 w base g n xs)(hi:i<n):∃x:Int,w.cell? (no g i)=some (.int .i64 x):=by
 have hl:xs.length=n:=by have:=h.1.1;simpa using this
 obtain⟨x,hx⟩:=h.2 xs[i] (List.getElem_mem _);exact⟨x,by rw[aB h.1 rfl i (by omega),Zd (by omega),hx]⟩
theorem i6.set {xs:Nb}(h:i6 w base g n xs)(i:Nat)(x:Int):i6 (w.setCell (no g i) (x:Int)) base g n (xs.set i (.int .i64 x)):=by
 refine⟨(World.ownsRow.stored h.1 i _).1,fun y hy=>?_⟩;rcases List.mem_or_eq_of_mem_set hy with hy|rfl
 .exact h.2 y hy
 .exact⟨x,rfl⟩
def Kj (w:Wd)(g n:Nat)(s4 s5:Value)(wr:Wd):Prop:= ∃ (i:Nat) (m:Int) (xs:Nb),i<=n/\s4 =(m:Int)/\s5 =(i:Int)/\i6 wr w.heap.size g n xs/\ge w wr
def IP (w:Wd)(g n m:Nat)(s6:Value)(wr:Wd):Prop:= ∃ (k:Nat) (xs:Nb),k<=m/\s6 =(k:Int)/\i6 wr w.heap.size g n xs/\ge w wr
def EJ (w:Wd)(e:Ending)(w':Wd):Prop:= ∃m:Int,e = (m:Int)/\ge w w'
theorem zN (hf:cS w 0 v (j.flat 0))(hsz:j.size<=1000000):Calls prog 23 #[v] w (EJ w):=by
 obtain⟨A,cap,rfl,a4,hm,hA⟩:=hf.form;have hn:=j.size_pos;obtain⟨gt,rfl⟩:=hA (by rw[JV.flat_len];omega);have Hf:=Qa hf;rw[JV.flat_len] at a4 hm Hf ⊢;obtain⟨i0,hi,b1,a9,b0⟩:=info_parts fD.hi;have b9:∀W:Wd,(Instr.makeSlice 31 (j.size:Int) (j.size:Int)).run prog W =.ok (.slice (some (nl W.heap.size)) j.size j.size) (W.alloc (.cells (madeCells #[(0:Int)] j.size) 3)):=fun W=>by
  have:=run_make (P:=prog) W 31 3 i0 (0:Int) fD.ht hi b1 .i64 .i64 j.size j.size (by omega) (by omega) (by rw[b0];omega) (by omega);rw[a9] at this;simpa [Value.cells] using this
 have a0:i6 (w.alloc (.cells (madeCells #[(0:Int)] j.size) 3)) w.heap.size w.heap.size j.size (List.replicate j.size (.int .i64 0)):=by
  refine⟨?_,fun x hx=>⟨0,(List.mem_replicate.1 hx).2⟩⟩;have:=ft (n:=j.size) (k:=1) (Zf w (.cells (madeCells #[(0:Int)] j.size) 3)) (Zb w.heap.size) hm (by simp[madeCells])
  rwa[toList_madeCells_one] at this
 have a1:i6 (w.alloc (.cells ((madeCells #[(0:Int)] j.size).setIfInBounds 0 (1:Int)) 3)) w.heap.size w.heap.size j.size ((List.replicate j.size (.int .i64 0)).set 0 (.int .i64 1)):=by
  refine⟨?_,fun x hx=>?_⟩
  .have:=ft (n:=j.size) (k:=1) (Zf w (.cells ((madeCells #[(0:Int)] j.size).setIfInBounds 0 (1:Int)) 3)) (Zb w.heap.size) hm (by simp[madeCells])
   rwa[Array.toList_setIfInBounds,toList_madeCells_one] at this
  .rcases List.mem_or_eq_of_mem_set hx with hx|rfl
   .exact⟨0,(List.mem_replicate.1 hx).2⟩
   .exact⟨1,rfl⟩
 have Hrow:=Qa a1;have Hb0:=Qa (aa w (.cells ((madeCells #[(0:Int)] j.size).setIfInBounds 0 (1:Int)) 3));obtain⟨z0,c0⟩:=a0.get (i:=0) (by omega);have f0:=World.ownsRow.frozenAt a0.1 0;have b8:((j.size:Int)==0)=false:=beq_eq_false_iff_ne.2 (by omega);have b7:0<j.size:=hn;unfold maxLen at hm;clear a0 a1 hf hA hi b1 a9 b0;go_in;go_wp2_with fail
 go_loopw [4,5,6] (fun s4 s5 _ wr=>Kj w w.heap.size j.size s4 s5 wr) (fun _ v _ _=>j.size - (intOf v).toNat)
 case atStart=>exact⟨0,1,_,Zk _,rfl,rfl,Hrow,Hb0⟩
 case round=>
  obtain⟨i,m,xs,hi,rfl,rfl,hr,hb⟩:=hrel;have Hr:=Qa hr;have Hb:=Qa hb;clear hr hb
  by_cases hlt:i<j.size
  .obtain⟨x,hx⟩:∃x,(j.flat 0)[i]?=some x:=⟨_,Zd (by rw[JV.flat_len];exact hlt)⟩;obtain⟨di,ci⟩:=Hr.get hlt;have b4:(i:Int)<j.size:=by omega
   have a5:=oI j 0 x (Zl hx);have hkl:=ow (Zl hx);have Hx:=Qa hx;have b3:=Qa a5;clear hx a5 c0 f0;obtain⟨wo,rfl⟩:∃wo:Wd,wo=wr:=⟨_,rfl⟩;go_upto_region 9 with fail
   go_cut [4] (fun s4 wx=>(∃m':Int,s4 =(m':Int))/\wo=wx)
   case first=>
    go_wp2_with fail
    all_goals
     go_meet
     case rel=>exact⟨⟨_,rfl⟩,rfl⟩
   case rest=>
    obtain⟨⟨m',rfl⟩,rfl⟩:=hcut;go_wp2_with fail
    go_loopw [6] (fun s6 wx=>IP w w.heap.size j.size x.kids.length s6 wx) (fun v _=>x.kids.length - (intOf v).toNat)
    case atStart=>exact⟨0,_,Zk _,rfl,Hr,Hb⟩
    case round=>
     obtain⟨k,ys,hk,rfl,a6,hby⟩:=hrel;obtain⟨vn,vk,h1,h2,h3⟩:=(Hf.below hby (Zb _)).node Hx.out;obtain⟨Ak,ck,rfl,c1,b5,a7⟩:=ai h2;have c7:=h3 7 _ rfl;have a2:=Qa a6;have b2:=Qa hby;have H2:=Qa h2;have b6:=Qa a7;clear h1 h2 h3 a6 hby a7 ci
     by_cases hkt:k<x.kids.length
     .obtain⟨gk,rfl⟩:=b6 (by omega);obtain⟨z,hz⟩:∃z,x.kids[k]?=some z:=⟨_,Zd hkt⟩;have cz:=aB H2.out rfl k (by omega);rw[List.getElem?_map,hz] at cz;simp only[Option.map_some,cv] at cz;have hzb:=b3 z (Zl hz);obtain⟨dz,czz⟩:=a2.get (i:=z) (by omega);obtain⟨dw,cw⟩:=a2.get hlt;have fz:=World.ownsRow.frozenAt a2.1 z;have hki:(k:Int)<x.kids.length:=by omega
      have c2:(z:Int)<j.size:=by omega
      have c3:z<j.size:=by omega
      go_wp2_with fail;refine cJ (fun w'=>w'.cell? ⟨gt,i*8+7,none⟩=some (.slice (some (nl gk)) x.kids.length ck)/\w'.cell? (no gk k)=some (.int .i64 z)/\w'.cell? (no w.heap.size i)=some (.int .i64 dw)) 15 (⟨c7,cz,cw⟩) fun a3=>?_
      refine iz 0 1 2 a3 ?_;refine iz 3 4 5 a3 ?_;refine iz 6 7 8 a3 ?_;refine iz 9 10 11 a3 ?_;refine iz 12 13 14 a3 ?_;refine rZ 15 fun K hK=>?_
      go_simp;refine hK _ _ (fun h=>absurd rfl h) (fun _=>?_);clear hK K
      try simp only[Act.put,jP,jQ,jR]
      refine aR (by kernel_rfl) (NoPanic.normal ?_) _;have hs:=a2.set z (wrap64 (dw+1));go_wp2_with fail;exact⟨⟨k+1,_,by omega,by go_num,hs,b2.drew.setCell (p:=⟨w.heap.size,z,none⟩) (Zb _) _⟩,by simp[intOf];omega⟩
     .obtain rfl:k=x.kids.length:=by omega
      go_wp2_with fail;exact⟨⟨i+1,_,_,by omega,rfl,by go_num,a2.out,b2.out⟩,by simp[intOf];omega⟩
  .obtain rfl:i=j.size:=by omega
   go_wp2;go_ret;exact⟨_,rfl,Hb⟩
def Kv (w:Wd)(j u:JV)(a:Nat)(s1:Value)(wr:Wd):Prop:= ∃ (b:Nat) (x:JV),s1 =(b:Int)/\dI j 0 b x/\b+x.size=a+u.size/\ge w wr
def Mx (w:Wd)(n:Nat)(e:Ending)(w':Wd):Prop:=e = (n:Int)/\ge w w'
theorem EX {u:JV}{a:Nat}(hf:cS w 0 v (j.flat 0))(hs:dI j 0 a u)(hsz:j.size<=1000000):Calls prog 114 #[v,(a:Int)] w (Mx w (a+u.size)):=by
 obtain⟨A,cap,rfl,a2,hm,hA⟩:=hf.form;have hn:=j.size_pos;obtain⟨gt,rfl⟩:=hA (by rw[JV.flat_len];omega);have Hf:=Qa hf;rw[JV.flat_len] at a2 hm Hf ⊢;have Hs:=Qa hs;unfold maxLen at hm;clear hf hA hs;go_in;go_wp2_with fail
 go_loopw [1] (fun s1 wr=>Kv w j u a s1 wr) (fun v _=>j.size - (intOf v).toNat)
 case atStart=>exact⟨a,u,rfl,Hs,rfl,Ze _ _⟩
 case round=>
  obtain⟨b,x,rfl,hx,he,hb⟩:=hrel;have Hb:=Qa hb;obtain⟨xk,xt,xx,xn,xns,xks⟩:=x;have a7:=hx.bd;have a0:=hx.node;have b4:1<=(JV.mk xk xt xx xn xns xks).size:=JV.size_pos _;rw[Nat.sub_zero] at a0;have b2:b<j.size:=by omega
  obtain⟨vn,vk,h1,h2,h3⟩:=(Hf.below hb (Zb _)).node a0;obtain⟨Ak,ck,rfl,a9,a6,a3⟩:=ai h2;have c7:=h3 7 _ rfl;unfold bO at h2;simp only[bm] at c7 a9 a6 a3 h2;have H2:=Qa h2;have Hx:=Qa hx;have He:=Qa he;have b1:=Qa a3;have b5:(b:Int)<j.size:=by omega
  clear h1 h2 h3 a3 a0 hx he hb
  by_cases h0:0<xks.length
  .obtain⟨gk,rfl⟩:=b1 h0;have hne:xks≠ []:=by intro e;subst e;simp at h0
   obtain⟨pre,nU,rfl⟩:∃pre nU,xks=pre ++ [nU]:=⟨_,_,(List.dropLast_concat_getLast hne).symm⟩;have a1:(aZ (b+1) (pre ++ [nU]))[pre.length]?=some (b+1+JV.sizes pre):=by
    rw[dF,List.getElem?_append_right (by rw[bm];exact Zb _)];simp[aZ,bm]
   have hlen:(pre ++ [nU]).length=pre.length+1:=by simp
   rw[hlen] at c7 a9 a6 H2;have cz:=aB H2.out rfl pre.length (by omega);rw[List.getElem?_map,a1] at cz;simp only[Option.map_some,cv] at cz;have Hk:=Qa (dI.kid (post:= []) Hx.out);have b0:=Qa (show(b+1+JV.sizes pre)+nU.size=a+u.size by have:=He.out;simp only[JV.size,dk,JV.sizes] at this;omega);have hq:pre.length<pre.length+1:=by omega
   have b3:pre.length<=1000000:=by have:=bW pre;have:=He.out;simp only[JV.size,dk,JV.sizes] at a7;omega
   have w1:=NC ((pre.length:Int)+1 - 1) (pre.length:Int)
   have w2:IntKind.i64.wrap (pre.length:Int)=pre.length:=IntWalk.i64_in _ (by omega);have w3:(((pre.length+1:Nat):Int))= (pre.length:Int)+1:=by omega
   clear a1 hlen h0 hne;go_wp2_with fail;go_quiet (fail);go_wp2_with fail;exact⟨⟨_,nU,rfl,Hk,b0,av Hb _⟩,by have:=Hk.bd;have:=nU.size_pos;simp[intOf];omega⟩
  .have a5:xks.length=0:=by omega
   obtain rfl:xks = []:=List.eq_nil_of_length_eq_zero a5;have a4:=Qa (show b+1=a+u.size by have:=He.out;simp only[JV.size,JV.sizes] at this;omega);clear h0 a5 a7;go_wp2;go_ret;exact⟨by rw[<-a4.out];exact AY (by omega),Hb.out⟩
theorem Dr:(prog.info? 74).map (·.size)=some 8:=by kernel_rfl
def LH (w2:Wd)(f:Nat->Nat)(kids:List Nat)(s7 s8:Value)(wr:Wd):Prop:= ∃q:Nat,q<=kids.length/\s8 =(q:Int)/\ge w2 wr/\bO wr w2.heap.size s7 ((kids.take q).map f)
def MV (w:Wd)(x:Nd)(e:Ending)(w':Wd):Prop:= ∃ (An:OA) (cn:Nat) (Ak:OA) (ck:Nat),e =.returned (.agg (aF x (.slice An x.names.length cn) (.slice Ak x.kids.length ck)).toArray)/\ge w w'/\cX w' w.heap.size (.slice An x.names.length cn) x.names/\bO w' w.heap.size (.slice Ak x.kids.length ck) x.kids
theorem B0 {x:Nd}(hn:cX w 0 vn x.names)(hk:bO w 0 vk x.kids)(hnl:x.names.length<=1000000)(hkl:x.kids.length<=1000000)(f:Nat->Nat)(from_ by_:Int)
  (hf:∀q∈x.kids,((f q:Nat):Int)= (if from_<=q then(q:Int)+by_ else q)/\q<=1000000/\f q<=2000000) :
  Calls prog 115 #[.agg (aF x vn vk).toArray,(from_:Int),(by_:Int)] w (MV w (x.mv f)):=by
 obtain⟨Anx,cnx,rfl,-,-,-⟩:=ai hn;obtain⟨Akx,ckx,rfl,-,c3,b5⟩:=ai hk;obtain⟨xk,xt,xx,⟨xn1,xn2,xn3⟩,xns,xks⟩:=x
 dsimp only at hn hk hnl hkl hf c3 b5 ⊢
 unfold aF
 dsimp only
 have a2:ge w ((w.alloc (.cells #[(xk:Int),.bool xt,xx,.bool xn1,xn2,(xn3:Int),.slice Anx xns.length cnx,.slice Akx xks.length ckx] 74)).alloc (.cells #[(0:Int),false,es,false,es,(0:Int),(),()] 74)):=((Ze _ _).alloc (Zb _) _).alloc (by simp) _;have c2:=(Below.heap_alloc (w.alloc (.cells #[(xk:Int),.bool xt,xx,.bool xn1,xn2,(xn3:Int),.slice Anx xns.length cnx,.slice Akx xks.length ckx] 74)) (.cells #[(0:Int),false,es,false,es,(0:Int),(),()] 74) w.heap.size (by simp)).trans (Zf w (.cells #[(xk:Int),.bool xt,xx,.bool xn1,xn2,(xn3:Int),.slice Anx xns.length cnx,.slice Akx xks.length ckx] 74));have c0:=Zf (w.alloc (.cells #[(xk:Int),.bool xt,xx,.bool xn1,xn2,(xn3:Int),.slice Anx xns.length cnx,.slice Akx xks.length ckx] 74)) (.cells #[(0:Int),false,es,false,es,(0:Int),(),()] 74);rw[World.size_alloc] at c0;have b6:((w.alloc (.cells #[(xk:Int),.bool xt,xx,.bool xn1,xn2,(xn3:Int),.slice Anx xns.length cnx,.slice Akx xks.length ckx] 74)).alloc (.cells #[(0:Int),false,es,false,es,(0:Int),(),()] 74)).heap.size=w.heap.size+2:=by simp
 have HN:=Qa (hn.below a2 (Zb _));have d2:=Qa (hk.below a2 (Zb _));have b1:=Qa a2;have c5:=Qa c2;have c8:=Qa c0;have d5:=Qa b6;have Hf:=Qa hf;have d3:=Qa b5;unfold maxLen at c3;clear hn hk a2 c2 c0 b6 hf b5;go_in;go_wp2_with fail;generalize ((w.alloc (.cells #[(xk:Int),.bool xt,xx,.bool xn1,xn2,(xn3:Int),.slice Anx xns.length cnx,.slice Akx xks.length ckx] 74)).alloc (.cells #[(0:Int),false,es,false,es,(0:Int),(),()] 74))=w2 at *
 go_loopw [7,8,9] (fun s7 s8 _ wr=>LH w2 f xks s7 s8 wr) (fun _ v _ _=>xks.length - (intOf v).toNat)
 case atStart=>exact⟨0,Zk _,rfl,Ze _ _,by rw[List.take_zero,List.map_nil];exact bO.nil _ _⟩
 case round=>
  obtain⟨q,hq,rfl,hb,ho⟩:=hrel;have Hb:=Qa hb;have Ho:=Qa ho;have c6:=hb.size;have a5:=(hb.block _ (ah c5)).trans c5.out;have c7:=ac a5 (j:=7) (u:=.slice Akx xks.length ckx) rfl;have a1:=Qa a5;clear hb ho a5
  by_cases hqt:q<xks.length
  .obtain⟨gk,rfl⟩:=d3 (by omega);obtain⟨z,hz⟩:∃z,xks[q]?=some z:=⟨_,Zd hqt⟩;have cz:=aB (d2.below Hb (Zb _)) rfl q (by omega);rw[List.getElem?_map,hz] at cz;simp only[Option.map_some,cv] at cz;obtain⟨a7,d4,b6⟩:=Hf z (Zl hz);have Hz:=Qa (show(xks.take (q+1)).map f= (xks.take q).map f ++ [f z] by rw[cA hz,List.map_append];rfl);have b7:=Qa (show((xks.take q).map f).length=q by rw[List.length_map,List.length_take];omega);have b4:=Qa (au wr [cv (f z)] 3);have b2:=Qa (show(wr.alloc (.cells #[((f z:Nat):Int)] 3)).ownsRow w2.heap.size 3 1 u7 q (((xks.take q).map f).map cv) by have:=(Ho.below (aa wr (.cells #[((f z:Nat):Int)] 3)) (Zb _));unfold bO at this;rw[b7.out] at this;exact this);have d6:(q:Int)<xks.length:=by omega
   clear hz
   by_cases hfr:from_<=z
   .rw[if_pos hfr] at a7;have hw:(z:Int)+by_= ((f z:Nat):Int):=a7.symm;have d7:IntKind.i64.wrap ((f z:Nat):Int)= ((f z:Nat):Int):=IntWalk.i64_in _ (by omega);have d0:=Qa a7;clear a7;go_wp2_with (at_builtin;refine ir fD b2.out b4.out (by simp;omega) ?_ (h1:=(by simp[cv,Value.oneCell']));intro v' w5 h1 h2 h3;have HK:=Qa h1;have HG:=Qa h2;clear h1 h2 h3);have a2:ge w2 (wr.alloc (.cells #[((f z:Nat):Int)] 3)):=Hb.alloc c6 _;exact⟨⟨q+1,by omega,by go_num,aD a2 b2.out a2.size HG.out,by rw[Hz.out];unfold bO;rw[List.length_append,b7.out,List.map_append];exact HK.out⟩,by simp[intOf];omega⟩
   .rw[if_neg hfr] at a7;have a6:f z=z:=by omega
    rw[a6] at Hz b4 b2;have d0:=Qa a6;clear a7 a6;go_wp2_with (at_builtin;refine ir fD b2.out b4.out (by simp;omega) ?_ (h1:=(by simp[cv,Value.oneCell']));intro v' w5 h1 h2 h3;have HK:=Qa h1;have HG:=Qa h2;clear h1 h2 h3);have a2:ge w2 (wr.alloc (.cells #[(z:Int)] 3)):=Hb.alloc c6 _;exact⟨⟨q+1,by omega,by go_num,aD a2 b2.out a2.size HG.out,by rw[Hz.out];unfold bO;rw[List.length_append,b7.out,List.map_append];exact HK.out⟩,by simp[intOf];omega⟩
  .obtain rfl:q=xks.length:=by omega
   rw[List.take_length] at Ho;go_wp2_with fail;obtain⟨Ak7,ck7,rfl,-,-,-⟩:=ai Ho.out;rw[List.length_map] at Ho ⊢;have a9:=Qa (show(fun w':Wd=>w'.cell? (nl w.heap.size)=some (.int .i64 xk)/\w'.cell? (no w.heap.size 1)=some (.bool xt)/\w'.cell? (no w.heap.size 2)=some (.string xx)/\w'.cell? (no w.heap.size 3)=some (.bool xn1)/\w'.cell? (no w.heap.size 4)=some (.string xn2)/\w'.cell? (no w.heap.size 5)=some (.int .i64 xn3)/\w'.cell? (no w.heap.size 6)=some (.slice Anx xns.length cnx)) wr.drew from⟨ac a1 (j:=0) rfl,ac a1.out (j:=1) rfl,ac a1.out (j:=2) rfl,ac a1.out (j:=3) rfl,ac a1.out (j:=4) rfl,ac a1.out (j:=5) rfl,ac a1.out (j:=6) rfl⟩);have b0:=Qa (show ge w2 wr.drew from Hb.drew);have a4:=Qa (show ¬some w.heap.size=some (w.heap.size+1) from fun e=>by injection e with e;omega);have c4:=Qa (show bO wr.drew w2.heap.size (.slice Ak7 xks.length ck7) (xks.map f) from Ho.out);clear c7;generalize hwq:wr.drew=wq at a9 b0 c4;refine aI (fun w'=>w'.cell? (nl w.heap.size)=some (.int .i64 xk)/\w'.cell? (no w.heap.size 1)=some (.bool xt)/\w'.cell? (no w.heap.size 2)=some (.string xx)/\w'.cell? (no w.heap.size 3)=some (.bool xn1)/\w'.cell? (no w.heap.size 4)=some (.string xn2)/\w'.cell? (no w.heap.size 5)=some (.int .i64 xn3)/\w'.cell? (no w.heap.size 6)=some (.slice Anx xns.length cnx)) ((by rw[hwq];exact a9.out)) fun a0=>?_
   refine bw 0 1 2 a0 ?_;refine bw 3 4 5 a0 ?_;refine bw 6 7 8 a0 ?_;refine tH 9 a0 ?_;refine tH 11 a0 ?_;refine rH 10 fun K hK=>?_
   go_simp;rw[hwq] at a0;refine(mE (l:=xns) (Sl.of_own (HN.below b0 (Zb _))) hnl).mono ?_;rintro e w5 ⟨vt,rfl,a3,b8⟩;obtain⟨At5,ct5,rfl,-,-,-⟩:=ai b8;have b9:=Qa (b0.trans (a3.mono b0.size));have d1:=Qa (b8.low b0.size);have c9:=Qa (c4.below a3 (Zb _));have b3:=Qa ((b9.block _ (ah c8)).trans c8.out);clear b8;go_simp;refine hK _ _ (⟨Zg a3 a0.1,Zg a3 a0.2.1,Zg a3 a0.2.2.1,Zg a3 a0.2.2.2.1,Zg a3 a0.2.2.2.2.1,Zg a3 a0.2.2.2.2.2.1,Zg a3 a0.2.2.2.2.2.2⟩) (fun a0=>?_);clear hK K
   try simp only[Act.put,jP,jQ,jR]
   refine tH 12 a0 ?_;refine rH 13 fun K hK=>?_
   refine bZ b3.out ?_;refine hK _ _ (⟨(aj _ _ _).cell a0.1 a4,(aj _ _ _).cell a0.2.1 a4,(aj _ _ _).cell a0.2.2.1 a4,(aj _ _ _).cell a0.2.2.2.1 a4,(aj _ _ _).cell a0.2.2.2.2.1 a4,(aj _ _ _).cell a0.2.2.2.2.2.1 a4,(aj _ _ _).cell a0.2.2.2.2.2.2 a4⟩) (fun a0=>?_);clear hK K
   try simp only[Act.put,jP,jQ,jR]
   refine y5 ?_;clear a0;go_wp2_with fail;have c1:aK (fun e=>e=74) w5 (w5.setRow (w.heap.size+1) #[(xk:Int),.bool xt,xx,.bool xn1,xn2,(xn3:Int),.slice At5 xns.length ct5,.slice Ak7 xks.length ck7]):=aK.of_grown (aj ..) (fun g e cs t z hh=>by cases e;have h:=b3.out;rw[h] at hh;injection hh with hh;injection hh with _ hh;exact hh.symm);exact Zh (results_cell_row results115 _ _ (w.heap.size+1) 74 #[(xk:Int),.bool xt,xx,.bool xn1,xn2,(xn3:Int),.slice At5 xns.length ct5,.slice Ak7 xks.length ck7] (0,0) _ (by simp) (setRow_heap _ _ _ _ _ _ b3) underlying74 rfl Dr) rfl
    ⟨At5,ct5,Ak7,ck7,by simp[Nd.mv,aF],(b1.trans (b9.mono b1.size)).grown (aj ..) (Zc b1.size b9.size) (fun g e=>by cases e;omega),bT (ap d1 c1 (by decide)) b1.size,by have h1:=bT (ap c9 c1 (by decide)) b1.size;simpa [Nd.mv,bO] using h1⟩
