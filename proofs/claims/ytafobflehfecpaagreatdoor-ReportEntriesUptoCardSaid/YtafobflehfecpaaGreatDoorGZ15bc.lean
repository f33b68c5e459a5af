import Derived.Test.YtafobflehfecpaaGreatDoorGZ15bb
set_option linter.unusedVariables false
set_option linter.unusedSimpArgs false
set_option maxHeartbeats 64000000
set_option maxRecDepth 100000
namespace Go.Proofs.YtafobflehfecpaaGreatDoor
open Go.RowKit
variable {aE aU:Addr}{fin:Bool}{f:Fr}{by_ dp ex:Int}{j:JV}{frs fs:List Fr}{maps:List Nat}{xs ys:List UInt8}{B k0 lb n nd rb want xb:Nat}{nv ov v:Value}{w w' w0:World}
theorem pP:∀ (f:Nat) (xs out:List UInt8) (n:Nat) (p:List UInt8×Nat),iF out->out.length<=4*n->ef f xs out n=some p->iF p.1/\p.1.length<=4*p.2
 |0,_,_,_,_,_,_,h=>by cases h
 |f+1,xs,out,n,p,hu,hl,h=>by
  unfold ef at h
  split at h
  ·cases h
  ·injection h with h
   subst h;exact⟨hu,by simp only;omega⟩
  ·rename_i c k hp
   obtain⟨h1,h2,-⟩:=lf hp;have h3:=kE c;exact pP f _ _ _ p (hu.snoc h1) (by rw[List.length_append];simp only at h2 h3 ⊢;omega) h
theorem rG {s:ByteArray}(hl:xs.length<=1000000000)(h:cj xs=some (.str s,n)):eC s:=by
 cases xs with
 |nil=>cases h
 |cons x xs=>
  simp only[cj] at h
  split at h
  ·injection h with h;injection h with h _;cases h
  ·rw[Option.map_eq_some_iff] at h;obtain⟨j,-,h⟩:=h;injection h with h _;cases h
  ·rw[Option.map_eq_some_iff] at h;obtain⟨j,-,h⟩:=h;injection h with h _;cases h
  ·rw[Option.map_eq_some_iff] at h;obtain⟨p,hp,h⟩:=h;injection h with h _
   injection h with h
   subst h;unfold kB at hp
   split at hp
   ·rename_i ys e
    injection e with e1 e2
    subst e2;obtain⟨h1,h2⟩:=pP _ _ _ _ _ iF.nil (Zj _) hp;have h3:=o9 _ _ _ _ _ hp;rw[List.length_cons] at hl;refine⟨by obtain⟨cs,a,b⟩:=h1;exact⟨cs,a,by simpa using b⟩,?_⟩
    show(p.1.toArray).size<=_
    rw[List.size_toArray];omega
   ·cases hp
  ·cases h
theorem xD (h:cj xs=some (.leaf j,n)):qF j:=by
 cases xs with
 |nil=>cases h
 |cons x xs=>
  simp only[cj] at h
  split at h
  ·injection h with h;injection h with h _;cases h
  ·rw[Option.map_eq_some_iff] at h;obtain⟨j',hj,h⟩:=h;injection h with h _
   injection h with h
   subst h;unfold qz at hj
   split at hj
   ·obtain rfl:=Zi hj;exact .null
   ·split at hj
    ·obtain rfl:=Zi hj;exact .bool true
    ·split at hj
     ·obtain rfl:=Zi hj;exact .bool false
     ·cases hj
  ·rw[Option.map_eq_some_iff] at h;obtain⟨p,hp,h⟩:=h;injection h with h _
   injection h with h
   subst h;unfold mc at hp;simp only at hp
   split at hp
   ·rw[Option.map_eq_some_iff] at hp;obtain⟨d,hd,rfl⟩:=hp;refine .num d ?_;unfold fu at hd;simp only at hd
    split at hd
    ·obtain rfl:=Zi hd;simp
    ·split at hd
     ·rename_i hx;obtain rfl:=Zi hd;exact hx
     ·cases hd
   ·cases hp
  ·rw[Option.map_eq_some_iff] at h;obtain⟨p,-,h⟩:=h;injection h with h _;cases h
  ·cases h
theorem Dq {t:pq}(hl:xs.length<=1000000000)(h:cj xs=some (t,n)):D6 eC t:=by
 cases t with
 |mark c=>trivial
 |leaf j=>trivial
 |str s=>exact rG hl h
theorem qC {k:Nat}{t:pq}{bs:List Nat}(ht:(t =.leaf j/\qF j)\/∃s,t =.str s/\j=aY s)(hw:want=0\/want=1)(hR:gH B w rb lb xb v xs frs want k nd false)(a0:dV B w xb frs none bs)(hT:iM frs)(hl:frs.length<=1000000000)(hn:nd<=1000000000)(hB:B<=w.heap.size) :
  Calls Tryz.prog 156 #[.pointer (some ⟨rb,0,none⟩),km k0 t] w (Fe B rb lb xb v xs (bu frs j) k (nd+1) false w):=by
 rcases ht with ⟨rfl,hj⟩|⟨s,rfl,rfl⟩
 ·cases hj with
  |null=>
   have hs:=fun w=>sd k0 w
   have hm:∀W,(Instr.typeAssert (.iface 335 (.agg #[])) 187 310 true).run Tryz.prog W =.ok (.tuple #[.agg #[.bool false,.string ⟨#[]⟩,.int .i64 0],.bool false]) W:=fun W=>by kernel_rfl
   exact ic hw hR a0 hT hl hn hB hs (fun P w=>VW.null) rfl hm
  |bool b=>
   have hs:=fun w=>qw k0 b w
   have hm:∀W,(Instr.typeAssert (.iface 333 (.bool b)) 187 310 true).run Tryz.prog W =.ok (.tuple #[.agg #[.bool false,.string ⟨#[]⟩,.int .i64 0],.bool false]) W:=fun W=>by kernel_rfl
   exact ic hw hR a0 hT hl hn hB hs (fun P w=>VW.bool b) rfl hm
  |num d hd=>
   have hs:=fun w=>tk k0 d w
   exact BG hw hR a0 hT hl hn hB hs (fun P w=>VW.num d) d rfl hd
 ·have hs:=fun w=>vp k0 s w
  have hm:∀W,(Instr.typeAssert (.iface 86 (.string s)) 187 310 true).run Tryz.prog W =.ok (.tuple #[.agg #[.bool false,.string ⟨#[]⟩,.int .i64 0],.bool false]) W:=fun W=>by kernel_rfl
  exact ic hw hR a0 hT hl hn hB hs (fun P w=>VW.text s) rfl hm
theorem Cs {d:Option JV}(h:vj want frs d):want<8:=by
 rcases want with _|_|_|_|_|_|_|_|n <;> first|omega|exact h.elim
theorem kH {N:ByteArray->Prop}(h:cZ frs<=1000000000)(hw:∀f fs,frs=f::fs->bH f=false):iM frs:=by
 refine⟨by have:=iR frs;omega,fun f fs e=>⟨hw f fs e,?_⟩⟩;subst e;have:=kN f fs;omega
def Fk (B rb lb xb:Nat)(v:Value)(xs:List UInt8)(c:ci)(k nd:Nat)(w:World)(e:Ending)(w':World):Prop:= ∃nd',nd'<=nd+1/\Fe B rb lb xb v xs c k nd' false w e w'
theorem B0 {k:Nat}{c c':ci}{x:UInt8}{p:Int}(hM:jx w)(h:PS B rb lb xb v xs c k nd false w)(a5:c.ok eC)(hs:cC c (.mark x)=some c')(hc:cZ c.frs<=1000000000)(hn:nd<=1000000000)(hB:B<=w.heap.size) :
  Calls Tryz.prog 154 #[.pointer (some ⟨rb,0,none⟩),.agg #[.int .i64 p,.int .u8 x.toNat]] w (Fk B rb lb xb v xs c' k nd w):=by
 obtain⟨frs,want,done⟩:=c;obtain⟨h1,h2,h3⟩:=a5;obtain⟨hR,bs,a0⟩:=h;simp only at h1 h2 h3 hR a0 hc;have hlen:=iR frs;have a1:=Cs h3;simp only[cC] at hs
 split at hs
 case isFalse=>cases hs
 rename_i hm
 rcases zH hm with ⟨hx,hw⟩|⟨hx,hw⟩|⟨hx,hw⟩|⟨hx,hw⟩|⟨hx,hw⟩
 ·obtain⟨hd,hq⟩:=co h3 hw;subst hd;rcases hx with rfl|rfl
  ·rw[if_pos rfl] at hs;obtain rfl:=Zi hs;exact(dZ hM a1 hm hR a0 hB (.open5 _ (by omega) hn hq)).mono fun e w' h=>⟨_,Zb _,h⟩
  ·rw[if_neg (by decide),if_pos rfl] at hs;obtain rfl:=Zi hs;exact(dZ hM a1 hm hR a0 hB (.open6 _ (by omega) hn hq)).mono fun e w' h=>⟨_,Zb _,h⟩
 ·subst hx;rw[if_neg (by decide),if_neg (by decide)] at hs
  cases frs with
  |nil=>cases hs
  |cons f fs=>
   simp only[true_or,if_true] at hs;obtain rfl:=Zi hs;have a9:=kN f fs;have a4:cZ fs<=cZ (f::fs):=by simp[cZ]
   have hob:f.obj=false:=by
    rcases hw with rfl|rfl
    ·obtain⟨-,g,gs,e,h⟩:=h3;injection e with e _;rw[e];exact h
    ·obtain⟨-,g,gs,e,h⟩:=h3;injection e with e _;rw[e];exact h
   have a3:done=none:=by rcases hw with rfl|rfl <;> exact h3.1
   subst a3;have a2:=h1 f (by simp);exact(dZ hM a1 hm hR a0 hB (.close5 _ _ hob (a2.list hob).2 a2 (by omega) (by omega) (kH (N:=eC) (by omega) (fun g gs e=>h2 g (by rw[List.tail_cons,e];simp))) (by omega))).mono fun e w' h=>⟨_,Nat.le_succ _,h⟩
 ·subst hx;rw[if_neg (by decide),if_neg (by decide)] at hs
  cases frs with
  |nil=>cases hs
  |cons f fs=>
   simp only[or_true,if_true] at hs;obtain rfl:=Zi hs;have a9:=kN f fs;have a4:cZ fs<=cZ (f::fs):=by simp[cZ]
   have hob:f.obj=true/\f.name=none:=by
    rcases hw with rfl|rfl
    ·obtain⟨-,g,gs,e,h⟩:=h3;injection e with e _;rw[e];exact h
    ·obtain⟨-,g,gs,e,h⟩:=h3;injection e with e _;rw[e];exact h
   have a3:done=none:=by rcases hw with rfl|rfl <;> exact h3.1
   subst a3;have a2:=h1 f (by simp);exact(dZ hM a1 hm hR a0 hB (.close6 _ _ hob.1 hob.2 a2 (by omega) (by omega) (kH (N:=eC) (by omega) (fun g gs e=>h2 g (by rw[List.tail_cons,e];simp))) (by omega))).mono fun e w' h=>⟨_,Nat.le_succ _,h⟩
 ·obtain⟨rfl,rfl⟩:=And.intro hx hw;rw[if_neg (by decide),if_neg (by decide)] at hs;obtain⟨rfl,f,fs,rfl,h5,h6⟩:=h3
  try simp only at hs
  rw[if_neg (by decide),if_neg (by decide)] at hs;obtain rfl:=Zi hs;exact(dZ hM a1 hm hR a0 hB (.colon _)).mono fun e w' h=>⟨_,Nat.le_succ _,h⟩
 ·subst hx;rw[if_neg (by decide),if_neg (by decide)] at hs
  cases frs with
  |nil=>cases hs
  |cons f fs=>
   try simp only at hs
   rw[if_neg (by decide)] at hs;simp only[if_true] at hs;obtain rfl:=Zi hs;rw[List.length_cons] at hlen;rcases hw with rfl|rfl
   ·obtain⟨rfl,g,gs,e,h5⟩:=h3;injection e with e1 e2
    subst e1 e2;have:=dZ (p:=p) hM a1 hm hR a0 hB (.comma5 _ _ h5 (by omega));simp only[h5,Bool.false_eq_true,if_false] at this ⊢;exact this.mono fun e w' h=>⟨_,Nat.le_succ _,h⟩
   ·obtain⟨rfl,g,gs,e,h5,h6⟩:=h3;injection e with e1 e2
    subst e1 e2;have:=dZ (p:=p) hM a1 hm hR a0 hB (.comma6 _ _ h5 (by omega));simp only[h5,if_true] at this ⊢;exact this.mono fun e w' h=>⟨_,Nat.le_succ _,h⟩
theorem fp.lexed {k k':Nat}(h:fp B w rb lb xb v xs frs want k nd fin by_ dp ex ov nv maps)(hl:mG w' lb v xs k')(hc:aM (fun i=>i=lb) w w')(hk:k'<=xs.length):fp B w' rb lb xb v xs frs want k' nd fin by_ dp ex ov nv maps/\Kp j1 w w':=by
 obtain⟨h1,h2,h3,h4,h5,h6,h7,h8,h9,a2⟩:=h;have a0:Kp (fun e=>e=266) w w':=Kp.of_chg hc fun g e _=>by subst e;exact⟨_,_,_,h3.1,rfl⟩
 have a1:ao w' B v xs:=au h5 a0.keeps (by decide);exact⟨⟨a0.heap h1 (by decide),h2,hl,h4,a1,au h6 a0.keeps (by decide),au h7 a0.keeps (by decide),gL.seens h8 a0,h9,hk⟩,a0.imp fun e he=>.inr (.inl he)⟩
theorem BH {k:Nat}{bs:List Nat}{done:Option JV}(hE:pr w aU aE)(hR:gH B w rb lb xb v xs [] 7 k nd false)(b3:dV B w xb [] done bs)(hl:xs.length<=1000000000)(hB:B<=w.heap.size)(hd:(xs.drop k).dropWhile bQ = []) :
  Calls Tryz.prog 130 #[.pointer (some ⟨rb,0,none⟩)] w fun e w'=>e =.returned (.tuple #[])/\bZ B w w'/\gH B w' rb lb xb v xs [] 7 xs.length nd true/\dV B w' xb [] done bs:=by
 obtain⟨by_,dp,ex,ov,nv,maps,hA⟩:=hR;have c0:=aa hA.row (j:=0) (u:=.pointer (some ⟨lb,0,none⟩)) rfl;have b5:=Qa (pZ hE hA.lex hA.le hl hd);have HA:=Qa hA;have b8:=Qa b3;have HB:=Qa hB;have q1:=Eh;clear hE b3 hl hB hd hA;go_enter Tryz.func130,Tryz.ntmps130;go_wp2_with fail;refine Za b5 ?_;rintro e w1 ⟨rfl,b1,b0⟩;obtain⟨b2,a9⟩:=HA.out.lexed b1 b0 (Zb _);have a2:=b8.out.kp a9 bq;have a4:Below B w w1:=b0.below HB.out fun i e=>by rw[e];exact HA.out.llow
 have a0:=ac w1 (.cells #[.int .i64 xs.length] 272);obtain⟨w2,b4⟩:∃w2,w1.alloc (.cells #[.int .i64 xs.length] 272)=w2:=⟨_,rfl⟩;rw[b4] at a0;have a3:=b2.below a0;have c14:=aa a3.row (j:=14) (u:=.int .i64 7) rfl;have c15:=aa a3.row (j:=15) (u:=.bool false) rfl;have f15:=aj a3.row 15;have a1:=Zc (Zc HB.out a4.size) a0.size;have Hs:=Qa (a3.setDone a1 true);have b9:=Qa ((bZ.rd a4 a9).trans (bZ.new a0 (Zc HB.out a4.size)));have a5:=Qa (a2.below a0);clear b1 b0 b2 a9 a2 a4 a0 a3 a1 c0 b5;go_wp2_with fail;go_end0
 try rw[b4]
 exact⟨rfl,b9.out.trans (bZ.rd Hs.out.1 Hs.out.2.1),Hs.out.2.2.s,a5.out.kp Hs.out.2.1 bq⟩
structure fX (w0:World) (rb lb xb:Nat) (v:Value) (xs:List UInt8) (c:ci) (k nd:Nat) (w:World) (aU aE:Addr):Prop where
 env:pr w0 aU aE
 may:jx w0
 ps:PS w0.heap.size rb lb xb v xs c k nd false w
 ok:c.ok eC
 cnt:cZ c.frs<=1000000000
 nds:nd<=1000000000
 len:xs.length<=1000000000
 below:Below w0.heap.size w0 w
structure FE (B:Nat) (rb lb xb:Nat) (v:Value) (xs:List UInt8) (c:ci) (k nd:Nat) (w w1:World):Prop where
 ps:PS B rb lb xb v xs c k nd false w1
 below:Below B w w1
 kp:Kp j1 w w1
theorem fX.next {k:Nat}{c:ci}(h:fX w0 rb lb xb v xs c k nd w aU aE){y:UInt8}(hd:(xs.drop k).dropWhile bQ=y::ys){t:pq}(hx:cj (y::ys)=some (t,n)) :
  Calls Tryz.prog 152 #[.pointer (some ⟨lb,0,none⟩)] w fun e w1=>e =.returned (.tuple #[km (xs.length - (ys.length+1)) t,.nilIface])/\FE w0.heap.size rb lb xb v xs c (xs.length - (ys.length+1)+n) nd w w1:=by
 obtain⟨⟨by_,dp,ex,ov,nv,maps,hA⟩,bs,a2⟩:=h.ps;refine(sj (h.env.below h.below) hA.lex hA.le h.len hd hx).mono ?_;rintro e w1 ⟨rfl,a3,a1⟩;have hn:=(lW hx).2;rw[List.length_cons] at hn;have a5:ys.length+1<=xs.length:=by
  have h1:=db (xs.drop k);rw[hd,List.length_cons,List.length_drop] at h1;omega
 obtain⟨a4,a0⟩:=hA.lexed a3 a1 (by omega);exact⟨rfl,⟨a4.s,bs,a2.kp a0 bq⟩,a1.below h.below.size fun i e=>by rw[e];exact hA.llow,a0⟩
theorem wK {k:Nat}{c c':ci}(h:fX w0 rb lb xb v xs c k nd w aU aE){y:UInt8}(hd:(xs.drop k).dropWhile bQ=y::ys){x:UInt8}(hx:cj (y::ys)=some (.mark x,n))(hs:cC c (.mark x)=some c') :
  Calls Tryz.prog 130 #[.pointer (some ⟨rb,0,none⟩)] w fun e w'=>Fk w0.heap.size rb lb xb v xs c' (xs.length - (ys.length+1)+n) nd w e w':=by
 obtain⟨by_,dp,ex,ov,nv,maps,hA⟩:=h.ps.1;have c0:=aa hA.row (j:=0) (u:=.pointer (some ⟨lb,0,none⟩)) rfl;have a4:=Qa (h.next hd hx);have H:=Qa h;have Hs:=Qa hs;have q1:=Cd;have q2:=p7;clear h hd hx hs hA;go_enter Tryz.func130,Tryz.ntmps130;go_wp2_with fail;refine Za a4 ?_;rintro e w1 ⟨rfl,hL⟩;have HL:=Qa hL;have a0:=ac w1 (.cells #[.int .i64 (xs.length - (ys.length+1):Nat),.int .u8 x.toNat] 274);have a1:=Zc H.out.below.size hL.below.size;have a2:=Qa (B0 (p:=(xs.length - (ys.length+1):Nat)) (H.out.may.below ((H.out.below.trans hL.below).trans (a0.mono a1))) (⟨hL.ps.1.below a0,by obtain⟨bs,hb⟩:=hL.ps.2;exact⟨bs,hb.below a0⟩⟩:PS w0.heap.size rb lb xb v xs c _ nd false _) H.out.ok Hs.out H.out.cnt H.out.nds (Zc a1 a0.size));have a3:=Qa ((bZ.rd hL.below hL.kp).trans (bZ.new a0 a1));clear hL a0 a1 c0 a4;obtain⟨z,hz⟩:∃z:Int,((xs.length - (ys.length+1):Nat):Int)=z:=⟨_,rfl⟩;rw[show km (xs.length - (ys.length+1)) (.mark x) =.iface 274 (.agg #[.int .i64 (xs.length - (ys.length+1):Nat),.int .u8 x.toNat]) from rfl];rw[hz] at a2 a3 ⊢;clear hz;go_wp2_with fail;refine Za a2 ?_;rintro e w2 ⟨nd',h1,rfl,h2,h3⟩;have R:=Qa (And.intro h1 (And.intro h2 h3));clear h1 h2 h3;go_wp2_with fail;go_end0;exact⟨nd',R.out.1,rfl,a3.out.trans R.out.2.1,R.out.2.2⟩
theorem wU {k:Nat}(hw:want=2\/want=3)(h:fX w0 rb lb xb v xs ⟨f::fs,want,none⟩ k nd w aU aE)(ho:f.obj=true)(hn:f.name=none){y:UInt8}(hd:(xs.drop k).dropWhile bQ=y::ys){s:ByteArray}(hx:cj (y::ys)=some (.str s,n))(a9:s∉f.mems.map Prod.fst) :
  Calls Tryz.prog 130 #[.pointer (some ⟨rb,0,none⟩)] w fun e w'=>Fk w0.heap.size rb lb xb v xs ⟨{f with name:=some s}::fs,4,none⟩ (xs.length - (ys.length+1)+n) nd w e w':=by
 obtain⟨by_,dp,ex,ov,nv,maps,hA⟩:=h.ps.1;have c0:=aa hA.row (j:=0) (u:=.pointer (some ⟨lb,0,none⟩)) rfl;have b4:=Qa (h.next hd hx);have H:=Qa h;have b0:eC s:=rG (by have h1:=db (xs.drop k);rw[hd,List.length_drop] at h1;have:=h.len;omega) hx;have b1:=h.cnt;have b9:=kN f fs;have b5:=Qa b0;have b8:=Qa a9;have q1:=tQ;have q2:=l6;have q3:=kg;have a5:=Qa (show fs.length<=1000000000/\f.mems.length<=1000000000 by simp only at b1;omega);clear h hd hx hA b0 a9 b1 b9;rcases hw with rfl|rfl
 all_goals
  go_enter Tryz.func130,Tryz.ntmps130;go_wp2_with fail;refine Za b4 ?_;rintro e w1 ⟨rfl,hL⟩;have a0:=ac w1 (.cells #[.int .i64 (xs.length - (ys.length+1):Nat),.string s] 277);have a1:=Zc H.out.below.size hL.below.size;have a3:=hL.ps.1.below a0;obtain⟨bs,a2⟩:=hL.ps.2;have a4:=Qa (zY (p:=(xs.length - (ys.length+1):Nat)) a3 (a2.below a0) ho hn b8.out b5.out.2 a5.out.1 a5.out.2 (Zc a1 a0.size));have b3:=Qa ((bZ.rd hL.below hL.kp).trans (bZ.new a0 a1));obtain⟨by9,dp9,ex9,ov9,nv9,maps9,b2⟩:=a3;have c14:=aa b2.row (j:=14) rfl;simp only[cv] at c14;clear hL a0 a1 c0 b4 b2 a2;obtain⟨z,hz⟩:∃z:Int,((xs.length - (ys.length+1):Nat):Int)=z:=⟨_,rfl⟩;rw[show km (xs.length - (ys.length+1)) (.str s) =.iface 277 (.agg #[.int .i64 (xs.length - (ys.length+1):Nat),.string s]) from rfl];rw[hz] at a4 b3 c14 ⊢;clear hz;go_wp2_with fail;refine Za a4 ?_;rintro e w2 ⟨rfl,h2,h3⟩;have R:=Qa (And.intro h2 h3);clear h2 h3;go_wp2_with fail;(try simp only[Exit.inBlock,Exit.then]);refine Zh (results_none rfl ..) rfl ?_;exact⟨nd,Nat.le_succ _,rfl,b3.out.trans R.out.1,R.out.2⟩
theorem wY {k:Nat}(hw:want=0\/want=1)(h:fX w0 rb lb xb v xs ⟨frs,want,none⟩ k nd w aU aE){y:UInt8}(hd:(xs.drop k).dropWhile bQ=y::ys){s:ByteArray}(hx:cj (y::ys)=some (.str s,n)) :
  Calls Tryz.prog 130 #[.pointer (some ⟨rb,0,none⟩)] w fun e w'=>Fk w0.heap.size rb lb xb v xs (bu frs (aY s)) (xs.length - (ys.length+1)+n) nd w e w':=by
 obtain⟨by_,dp,ex,ov,nv,maps,hA⟩:=h.ps.1;have c0:=aa hA.row (j:=0) (u:=.pointer (some ⟨lb,0,none⟩)) rfl;have b2:=Qa (h.next hd hx);have H:=Qa h;have a3:=h.cnt;have b4:=iR frs;have a9:iM frs:=kH (N:=eC) a3 (co h.ok.want hw).2;have b5:=Qa a9;have q1:=tQ;have q2:=l6;have q3:=kg;have b3:=Qa (show frs.length<=1000000000 by simp only at a3;omega);clear h hd hx hA a3 b4 a9;rcases hw with rfl|rfl
 all_goals
  go_enter Tryz.func130,Tryz.ntmps130;go_wp2_with fail;refine Za b2 ?_;rintro e w1 ⟨rfl,hL⟩;have a0:=ac w1 (.cells #[.int .i64 (xs.length - (ys.length+1):Nat),.string s] 277);have a2:=Zc H.out.below.size hL.below.size;have a5:=hL.ps.1.below a0;obtain⟨bs,a4⟩:=hL.ps.2;have a1:=Qa (qC (k0:=xs.length - (ys.length+1)) (t:=.str s) (j:=aY s) (.inr ⟨s,rfl,rfl⟩) (by simp) a5 (a4.below a0) b5.out b3.out H.out.nds (Zc a2 a0.size));rw[show km (xs.length - (ys.length+1)) (.str s) =.iface 277 (.agg #[.int .i64 (xs.length - (ys.length+1):Nat),.string s]) from rfl] at a1;have b1:=Qa ((bZ.rd hL.below hL.kp).trans (bZ.new a0 a2));obtain⟨by9,dp9,ex9,ov9,nv9,maps9,b0⟩:=a5;have c14:=aa b0.row (j:=14) rfl;simp only[cv] at c14;clear hL a0 a2 c0 b2 b0 a4;obtain⟨z,hz⟩:∃z:Int,((xs.length - (ys.length+1):Nat):Int)=z:=⟨_,rfl⟩;rw[show km (xs.length - (ys.length+1)) (.str s) =.iface 277 (.agg #[.int .i64 (xs.length - (ys.length+1):Nat),.string s]) from rfl];rw[hz] at a1 b1 c14 ⊢;clear hz;go_wp2_with fail;refine Za a1 ?_;rintro e w2 ⟨rfl,h2,h3⟩;have R:=Qa (And.intro h2 h3);clear h2 h3;go_wp2_with fail;go_end0;exact⟨nd+1,Zb _,rfl,b1.out.trans R.out.1,R.out.2⟩
theorem yA {k:Nat}(hw:want=0\/want=1)(h:fX w0 rb lb xb v xs ⟨frs,want,none⟩ k nd w aU aE){y:UInt8}(hd:(xs.drop k).dropWhile bQ=y::ys)(hx:cj (y::ys)=some (.leaf j,n)) :
  Calls Tryz.prog 130 #[.pointer (some ⟨rb,0,none⟩)] w fun e w'=>Fk w0.heap.size rb lb xb v xs (bu frs j) (xs.length - (ys.length+1)+n) nd w e w':=by
 obtain⟨by_,dp,ex,ov,nv,maps,hA⟩:=h.ps.1;have c0:=aa hA.row (j:=0) (u:=.pointer (some ⟨lb,0,none⟩)) rfl;have b0:=Qa (h.next hd hx);have H:=Qa h;have a1:=h.cnt;have b4:=iR frs;have a5:iM frs:=kH (N:=eC) a1 (co h.ok.want hw).2;have b5:=Qa a5;have a0:=xD hx;have b2:=Qa a0;have b1:=Qa (show frs.length<=1000000000 by simp only at a1;omega);have Hw:=Qa hw;obtain⟨tt,tx,a9,c1,b9,c2⟩:∃tt tx,km (xs.length - (ys.length+1)) (.leaf j) =.iface tt tx/\(∀W,(Instr.typeAssert (.iface tt tx) 268 272 true).run Tryz.prog W =.ok (.tuple #[.agg #[.int .i64 0],.bool false]) W)/\
   (∀W,(Instr.typeAssert (.iface tt tx) 268 274 true).run Tryz.prog W =.ok (.tuple #[.agg #[.int .i64 0,.int .u8 0],.bool false]) W)/\(∀W,(Instr.typeAssert (.iface tt tx) 268 277 true).run Tryz.prog W =.ok (.tuple #[.agg #[.int .i64 0,.string ⟨#[]⟩],.bool false]) W):=by
  cases a0 with
  |null=>exact⟨_,_,rfl,ke _,iV _,ej _⟩
  |bool b=>exact⟨_,_,rfl,ke _,iV _,ej _⟩
  |num d hd=>exact⟨_,_,rfl,vr _,rh _,uG _⟩
 have b3:=Qa a9;clear h hd hx hA a1 b4 a5 a0 hw a9;go_enter Tryz.func130,Tryz.ntmps130;go_wp2_with fail;refine Za b0 ?_;rintro e w1 ⟨rfl,hL⟩;have a4:=Zc H.out.below.size hL.below.size;obtain⟨bs,a2⟩:=hL.ps.2;have a3:=Qa (qC (k0:=xs.length - (ys.length+1)) (t:=.leaf j) (j:=j) (.inl ⟨rfl,b2.out⟩) Hw.out hL.ps.1 a2 b5.out b1.out H.out.nds a4);have b8:=Qa (bZ.rd hL.below hL.kp);rw[b3.out] at a3 ⊢;clear hL a4 c0 b0 a2;go_wp2_with fail;refine Za a3 ?_;rintro e w2 ⟨rfl,h2,h3⟩;have R:=Qa (And.intro h2 h3);clear h2 h3;go_wp2_with fail;go_end0;exact⟨nd+1,Zb _,rfl,b8.out.trans R.out.1,R.out.2⟩
theorem Ac {k:Nat}{c c':ci}(h:fX w0 rb lb xb v xs c k nd w aU aE){y:UInt8}(hd:(xs.drop k).dropWhile bQ=y::ys){t:pq}(hx:cj (y::ys)=some (t,n))(hs:cC c t=some c') :
  Calls Tryz.prog 130 #[.pointer (some ⟨rb,0,none⟩)] w fun e w'=>Fk w0.heap.size rb lb xb v xs c' (xs.length - (ys.length+1)+n) nd w e w':=by
 cases t with
 |mark x=>exact wK h hd hx hs
 |leaf j=>
  obtain⟨frs,want,done⟩:=c;simp only[cC] at hs
  split at hs
  ·rename_i hw
   obtain rfl:=Zi hs;have h0:=(co h.ok.want hw).1;simp only at h0;subst h0;exact yA hw h hd hx
  ·cases hs
 |str s=>
  obtain⟨frs,want,done⟩:=c;simp only[cC] at hs
  split at hs
  ·rename_i hw
   have h4:done=none/\∃f fs,frs=f::fs/\f.obj=true/\f.name=none:=by
    have h3:=h.ok.want;rcases hw with rfl|rfl <;> exact h3
   obtain⟨rfl,f,fs,rfl,h5,h6⟩:=h4
   try simp only at hs
   split at hs
   ·cases hs
   ·rename_i hn
    obtain rfl:=Zi hs;refine wU hw h h5 h6 hd hx fun hm=>hn ?_
    obtain⟨m,a0,e⟩:=List.mem_map.1 hm;exact List.any_eq_true.2 ⟨m,a0,by simp[e]⟩
  ·split at hs
   ·rename_i hw
    obtain rfl:=Zi hs;have h0:=(co h.ok.want hw).1;simp only at h0;subst h0;exact wY hw h hd hx
   ·cases hs
