import Derived.Test.YtibmppoeeppnoaaGreatDoorGZ4bj
set_option linter.unusedVariables false
set_option linter.unusedSimpArgs false
set_option maxHeartbeats 64000000
set_option maxRecDepth 100000
namespace Go.Proofs.YtibmppoeeppnoaaGreatDoor
open Go.RowKit
variable {aE aU:Addr}{fin:Bool}{s:ByteArray}{f:Fr}{by_ dp ex:Int}{j:JV}{frs fs:List Fr}{bs maps:List Nat}{xs ys:List UInt8}{B k k0 lb n nd rb want xb:Nat}{nv ov v:Value}{w w' w0:World}
theorem tY:∀ (f:Nat) (xs out:List UInt8) (n:Nat) (p:List UInt8×Nat),fH out->out.length<=4*n->fL f xs out n=some p->fH p.1/\p.1.length<=4*p.2
 |0,_,_,_,_,_,_,h=>by cases h
 |f+1,xs,out,n,p,hu,hl,h=>by
  unfold fL at h
  split at h
  ·cases h
  ·injection h with h
   subst h;exact⟨hu,by simp only;omega⟩
  ·rename_i c k hp
   obtain⟨h1,h2,-⟩:=mM hp;have h3:=fZ c;exact tY f _ _ _ p (hu.snoc h1) (by rw[List.length_append];simp only at h2 h3 ⊢;omega) h
theorem sh (hl:xs.length<=1000000000)(h:dm xs=some (.str s,n)):jr s:=by
 cases xs with
 |nil=>cases h
 |cons x xs=>
  simp only[dm] at h
  split at h
  ·injection h with h;injection h with h _;cases h
  ·rw[Option.map_eq_some_iff] at h;obtain⟨j,-,h⟩:=h;injection h with h _;cases h
  ·rw[Option.map_eq_some_iff] at h;obtain⟨j,-,h⟩:=h;injection h with h _;cases h
  ·rw[Option.map_eq_some_iff] at h;obtain⟨p,hp,h⟩:=h;injection h with h _
   injection h with h
   subst h;unfold mm at hp
   split at hp
   ·rename_i ys e
    injection e with e1 e2
    subst e2;obtain⟨h1,h2⟩:=tY _ _ _ _ _ fH.nil (Zj _) hp;have h3:=re _ _ _ _ _ hp;rw[List.length_cons] at hl;refine⟨by obtain⟨cs,a,b⟩:=h1;exact⟨cs,a,by simpa using b⟩,?_⟩
    show(p.1.toArray).size<=_
    rw[List.size_toArray];omega
   ·cases hp
  ·cases h
theorem yX (h:dm xs=some (.leaf j,n)):sL j:=by
 cases xs with
 |nil=>cases h
 |cons x xs=>
  simp only[dm] at h
  split at h
  ·injection h with h;injection h with h _;cases h
  ·rw[Option.map_eq_some_iff] at h;obtain⟨j',hj,h⟩:=h;injection h with h _
   injection h with h
   subst h;unfold uV at hj
   split at hj
   ·obtain rfl:=Zh hj;exact .null
   ·split at hj
    ·obtain rfl:=Zh hj;exact .bool true
    ·split at hj
     ·obtain rfl:=Zh hj;exact .bool false
     ·cases hj
  ·rw[Option.map_eq_some_iff] at h;obtain⟨p,hp,h⟩:=h;injection h with h _
   injection h with h
   subst h;unfold nK at hp;simp only at hp
   split at hp
   ·rw[Option.map_eq_some_iff] at hp;obtain⟨d,hd,rfl⟩:=hp;refine .num d ?_;unfold it at hd;simp only at hd
    split at hd
    ·obtain rfl:=Zh hd;simp
    ·split at hd
     ·rename_i hx;obtain rfl:=Zh hd;exact hx
     ·cases hd
   ·cases hp
  ·rw[Option.map_eq_some_iff] at h;obtain⟨p,-,h⟩:=h;injection h with h _;cases h
  ·cases h
theorem EE {t:rG}(hl:xs.length<=1000000000)(h:dm xs=some (t,n)):EV jr t:=by
 cases t with
 |mark c=>trivial
 |leaf j=>trivial
 |str s=>exact sh hl h
theorem ul {t:rG}(ht:(t =.leaf j/\sL j)\/∃s,t =.str s/\j=eI s)(hw:want=0\/want=1)(hR:jL B w rb lb xb v xs frs want k nd false)(a0:fd B w xb frs none bs)(hT:kG frs)(hl:frs.length<=1000000000)(hn:nd<=1000000000)(hB:B<=w.heap.size) :
  Calls Tryz.prog 136 #[.pointer (some ⟨rb,0,none⟩),mz k0 t] w (Ge B rb lb xb v xs (bX frs j) k (nd+1) false w):=by
 rcases ht with ⟨rfl,hj⟩|⟨s,rfl,rfl⟩
 ·cases hj with
  |null=>
   have hs:=fun w=>tO k0 w
   have hm:∀W,(Instr.typeAssert (.iface 45 (.agg #[])) 120 128 true).run Tryz.prog W =.ok (.tuple #[.agg #[.bool false,.string ⟨#[]⟩,.int .i64 0],.bool false]) W:=fun W=>by kernel_rfl
   exact kc hw hR a0 hT hl hn hB hs (fun P w=>VW.null) rfl hm
  |bool b=>
   have hs:=fun w=>rW k0 b w
   have hm:∀W,(Instr.typeAssert (.iface 54 (.bool b)) 120 128 true).run Tryz.prog W =.ok (.tuple #[.agg #[.bool false,.string ⟨#[]⟩,.int .i64 0],.bool false]) W:=fun W=>by kernel_rfl
   exact kc hw hR a0 hT hl hn hB hs (fun P w=>VW.bool b) rfl hm
  |num d hd=>
   have hs:=fun w=>vB k0 d w
   exact BW hw hR a0 hT hl hn hB hs (fun P w=>VW.num d) d rfl hd
 ·have hs:=fun w=>xO k0 s w
  have hm:∀W,(Instr.typeAssert (.iface 55 (.string s)) 120 128 true).run Tryz.prog W =.ok (.tuple #[.agg #[.bool false,.string ⟨#[]⟩,.int .i64 0],.bool false]) W:=fun W=>by kernel_rfl
  exact kc hw hR a0 hT hl hn hB hs (fun P w=>VW.text s) rfl hm
theorem D3 {d:Option JV}(h:xc want frs d):want<8:=by
 rcases want with _|_|_|_|_|_|_|_|n <;> first|omega|exact h.elim
theorem mE {N:ByteArray->Prop}(h:dW frs<=1000000000)(hw:∀f fs,frs=f::fs->bY f=false):kG frs:=by
 refine⟨by have:=kJ frs;omega,fun f fs e=>⟨hw f fs e,?_⟩⟩;subst e;have:=mF f fs;omega
def Gb (B rb lb xb:Nat)(v:Value)(xs:List UInt8)(c:de)(k nd:Nat)(w:World)(e:Ending)(w':World):Prop:= ∃nd',nd'<=nd+1/\Ge B rb lb xb v xs c k nd' false w e w'
theorem AH {c c':de}{x:UInt8}{p:Int}(hM:kA w)(h:PS B rb lb xb v xs c k nd false w)(a5:c.ok jr)(hs:dI c (.mark x)=some c')(hc:dW c.frs<=1000000000)(hn:nd<=1000000000)(hB:B<=w.heap.size) :
  Calls Tryz.prog 134 #[.pointer (some ⟨rb,0,none⟩),.agg #[.int .i64 p,.int .u8 x.toNat]] w (Gb B rb lb xb v xs c' k nd w):=by
 obtain⟨frs,want,done⟩:=c;obtain⟨h1,h2,h3⟩:=a5;obtain⟨hR,bs,a0⟩:=h;simp only at h1 h2 h3 hR a0 hc;have hlen:=kJ frs;have a1:=D3 h3;simp only[dI] at hs
 split at hs
 case isFalse=>cases hs
 rename_i hm
 rcases BS hm with ⟨hx,hw⟩|⟨hx,hw⟩|⟨hx,hw⟩|⟨hx,hw⟩|⟨hx,hw⟩
 ·obtain⟨hd,hq⟩:=dh h3 hw;subst hd;rcases hx with rfl|rfl
  ·rw[if_pos rfl] at hs;obtain rfl:=Zh hs;exact(fD hM a1 hm hR a0 hB (.open5 _ (by omega) hn hq)).mono fun e w' h=>⟨_,Za _,h⟩
  ·rw[if_neg (by decide),if_pos rfl] at hs;obtain rfl:=Zh hs;exact(fD hM a1 hm hR a0 hB (.open6 _ (by omega) hn hq)).mono fun e w' h=>⟨_,Za _,h⟩
 ·subst hx;rw[if_neg (by decide),if_neg (by decide)] at hs
  cases frs with
  |nil=>cases hs
  |cons f fs=>
   simp only[true_or,if_true] at hs;obtain rfl:=Zh hs;have a6:=mF f fs;have a4:dW fs<=dW (f::fs):=by simp[dW]
   have hob:f.obj=false:=by
    rcases hw with rfl|rfl
    ·obtain⟨-,g,gs,e,h⟩:=h3;injection e with e _;rw[e];exact h
    ·obtain⟨-,g,gs,e,h⟩:=h3;injection e with e _;rw[e];exact h
   have a3:done=none:=by rcases hw with rfl|rfl <;> exact h3.1
   subst a3;have a2:=h1 f (by simp);exact(fD hM a1 hm hR a0 hB (.close5 _ _ hob (a2.list hob).2 a2 (by omega) (by omega) (mE (N:=jr) (by omega) (fun g gs e=>h2 g (by rw[List.tail_cons,e];simp))) (by omega))).mono fun e w' h=>⟨_,Nat.le_succ _,h⟩
 ·subst hx;rw[if_neg (by decide),if_neg (by decide)] at hs
  cases frs with
  |nil=>cases hs
  |cons f fs=>
   simp only[or_true,if_true] at hs;obtain rfl:=Zh hs;have a6:=mF f fs;have a4:dW fs<=dW (f::fs):=by simp[dW]
   have hob:f.obj=true/\f.name=none:=by
    rcases hw with rfl|rfl
    ·obtain⟨-,g,gs,e,h⟩:=h3;injection e with e _;rw[e];exact h
    ·obtain⟨-,g,gs,e,h⟩:=h3;injection e with e _;rw[e];exact h
   have a3:done=none:=by rcases hw with rfl|rfl <;> exact h3.1
   subst a3;have a2:=h1 f (by simp);exact(fD hM a1 hm hR a0 hB (.close6 _ _ hob.1 hob.2 a2 (by omega) (by omega) (mE (N:=jr) (by omega) (fun g gs e=>h2 g (by rw[List.tail_cons,e];simp))) (by omega))).mono fun e w' h=>⟨_,Nat.le_succ _,h⟩
 ·obtain⟨rfl,rfl⟩:=And.intro hx hw;rw[if_neg (by decide),if_neg (by decide)] at hs;obtain⟨rfl,f,fs,rfl,h5,h6⟩:=h3
  try simp only at hs
  rw[if_neg (by decide),if_neg (by decide)] at hs;obtain rfl:=Zh hs;exact(fD hM a1 hm hR a0 hB (.colon _)).mono fun e w' h=>⟨_,Nat.le_succ _,h⟩
 ·subst hx;rw[if_neg (by decide),if_neg (by decide)] at hs
  cases frs with
  |nil=>cases hs
  |cons f fs=>
   try simp only at hs
   rw[if_neg (by decide)] at hs;simp only[if_true] at hs;obtain rfl:=Zh hs;rw[List.length_cons] at hlen;rcases hw with rfl|rfl
   ·obtain⟨rfl,g,gs,e,h5⟩:=h3;injection e with e1 e2
    subst e1 e2;have:=fD (p:=p) hM a1 hm hR a0 hB (.comma5 _ _ h5 (by omega));simp only[h5,Bool.false_eq_true,if_false] at this ⊢;exact this.mono fun e w' h=>⟨_,Nat.le_succ _,h⟩
   ·obtain⟨rfl,g,gs,e,h5,h6⟩:=h3;injection e with e1 e2
    subst e1 e2;have:=fD (p:=p) hM a1 hm hR a0 hB (.comma6 _ _ h5 (by omega));simp only[h5,if_true] at this ⊢;exact this.mono fun e w' h=>⟨_,Nat.le_succ _,h⟩
theorem ir.lexed {k':Nat}(h:ir B w rb lb xb v xs frs want k nd fin by_ dp ex ov nv maps)(hl:oU w' lb v xs k')(hc:a8 (fun i=>i=lb) w w')(hk:k'<=xs.length):ir B w' rb lb xb v xs frs want k' nd fin by_ dp ex ov nv maps/\Kp lG w w':=by
 obtain⟨h1,h2,h3,h4,h5,h6,h7,h8,h9,a2⟩:=h;have a0:Kp (fun e=>e=260) w w':=Kp.of_chg hc fun g e _=>by subst e;exact⟨_,_,_,h3.1,rfl⟩
 have a1:aq w' B v xs:=al h5 a0.keeps (by decide);exact⟨⟨a0.heap h1 (by decide),h2,hl,h4,a1,al h6 a0.keeps (by decide),al h7 a0.keeps (by decide),jE.seens h8 a0,h9,hk⟩,a0.imp fun e he=>.inr (.inl he)⟩
theorem AN {done:Option JV}(hE:qV w aU aE)(hR:jL B w rb lb xb v xs [] 7 k nd false)(b3:fd B w xb [] done bs)(hl:xs.length<=1000000000)(hB:B<=w.heap.size)(hd:(xs.drop k).dropWhile cO = []) :
  Calls Tryz.prog 96 #[.pointer (some ⟨rb,0,none⟩)] w fun e w'=>e =.returned (.tuple #[])/\cK B w w'/\jL B w' rb lb xb v xs [] 7 xs.length nd true/\fd B w' xb [] done bs:=by
 obtain⟨by_,dp,ex,ov,nv,maps,hA⟩:=hR;have c0:=aa hA.row (j:=0) (u:=.pointer (some ⟨lb,0,none⟩)) rfl;have b2:=Qa (uo hE hA.lex hA.le hl hd);have HA:=Qa hA;have b4:=Qa b3;have HB:=Qa hB;have q1:=FF;clear hE b3 hl hB hd hA;go_enter Tryz.func96,Tryz.ntmps96;go_wp2_with fail;(with_reducible refine b2.out.mono ?_);rintro e w1 ⟨rfl,b0,a5⟩;obtain⟨b1,a6⟩:=HA.out.lexed b0 a5 (Za _);have a3:=b4.out.kp a6 bO;have a4:Below B w w1:=a5.below HB.out fun i e=>by rw[e];exact HA.out.llow
 have a0:=ac w1 (.cells #[.int .i64 xs.length] 267);obtain⟨w2,a9⟩:∃w2,w1.alloc (.cells #[.int .i64 xs.length] 267)=w2:=⟨_,rfl⟩;rw[a9] at a0;have a1:=b1.below a0;have c14:=aa a1.row (j:=14) (u:=.int .i64 7) rfl;have c15:=aa a1.row (j:=15) (u:=.bool false) rfl;have f15:=aj a1.row 15;have a2:=Zb (Zb HB.out a4.size) a0.size;have Hs:=Qa (a1.setDone a2 true);have b5:=Qa ((cK.rd a4 a6).trans (cK.new a0 (Zb HB.out a4.size)));have a7:=Qa (a3.below a0);clear b0 a5 b1 a6 a3 a4 a0 a1 a2 c0 b2;go_wp2_with fail;go_end0
 try rw[a9]
 exact⟨rfl,b5.out.trans (cK.rd Hs.out.1 Hs.out.2.1),Hs.out.2.2.s,a7.out.kp Hs.out.2.1 bO⟩
structure iE (w0:World) (rb lb xb:Nat) (v:Value) (xs:List UInt8) (c:de) (k nd:Nat) (w:World) (aU aE:Addr):Prop where
 env:qV w0 aU aE
 may:kA w0
 ps:PS w0.heap.size rb lb xb v xs c k nd false w
 ok:c.ok jr
 cnt:dW c.frs<=1000000000
 nds:nd<=1000000000
 len:xs.length<=1000000000
 below:Below w0.heap.size w0 w
structure GH (B:Nat) (rb lb xb:Nat) (v:Value) (xs:List UInt8) (c:de) (k nd:Nat) (w w1:World):Prop where
 ps:PS B rb lb xb v xs c k nd false w1
 below:Below B w w1
 kp:Kp lG w w1
theorem iE.next {c:de}(h:iE w0 rb lb xb v xs c k nd w aU aE){y:UInt8}(hd:(xs.drop k).dropWhile cO=y::ys){t:rG}(hx:dm (y::ys)=some (t,n)) :
  Calls Tryz.prog 132 #[.pointer (some ⟨lb,0,none⟩)] w fun e w1=>e =.returned (.tuple #[mz (xs.length - (ys.length+1)) t,.nilIface])/\GH w0.heap.size rb lb xb v xs c (xs.length - (ys.length+1)+n) nd w w1:=by
 obtain⟨⟨by_,dp,ex,ov,nv,maps,hA⟩,bs,a4⟩:=h.ps;refine(rX (h.env.below h.below) hA.lex hA.le h.len hd hx).mono ?_;rintro e w1 ⟨rfl,a2,a0⟩;have hn:=(nG hx).2;rw[List.length_cons] at hn;have a5:ys.length+1<=xs.length:=by
  have h1:=ik (xs.drop k);rw[hd,List.length_cons,List.length_drop] at h1;omega
 obtain⟨a3,a1⟩:=hA.lexed a2 a0 (by omega);exact⟨rfl,⟨a3.s,bs,a4.kp a1 bO⟩,a0.below h.below.size fun i e=>by rw[e];exact hA.llow,a1⟩
theorem Ay {c c':de}(h:iE w0 rb lb xb v xs c k nd w aU aE){y:UInt8}(hd:(xs.drop k).dropWhile cO=y::ys){x:UInt8}(hx:dm (y::ys)=some (.mark x,n))(hs:dI c (.mark x)=some c') :
  Calls Tryz.prog 96 #[.pointer (some ⟨rb,0,none⟩)] w fun e w'=>Gb w0.heap.size rb lb xb v xs c' (xs.length - (ys.length+1)+n) nd w e w':=by
 obtain⟨by_,dp,ex,ov,nv,maps,hA⟩:=h.ps.1;have c0:=aa hA.row (j:=0) (u:=.pointer (some ⟨lb,0,none⟩)) rfl;have a3:=Qa (h.next hd hx);have H:=Qa h;have Hs:=Qa hs;have q1:=Dt;have q2:=sK;clear h hd hx hs hA;go_enter Tryz.func96,Tryz.ntmps96;go_wp2_with fail;(with_reducible refine a3.out.mono ?_);rintro e w1 ⟨rfl,hL⟩;have HL:=Qa hL;have a0:=ac w1 (.cells #[.int .i64 (xs.length - (ys.length+1):Nat),.int .u8 x.toNat] 269);have a1:=Zb H.out.below.size hL.below.size;have a2:=Qa (AH (p:=(xs.length - (ys.length+1):Nat)) (H.out.may.below ((H.out.below.trans hL.below).trans (a0.mono a1))) (⟨hL.ps.1.below a0,by obtain⟨bs,hb⟩:=hL.ps.2;exact⟨bs,hb.below a0⟩⟩:PS w0.heap.size rb lb xb v xs c _ nd false _) H.out.ok Hs.out H.out.cnt H.out.nds (Zb a1 a0.size));have a4:=Qa ((cK.rd hL.below hL.kp).trans (cK.new a0 a1));clear hL a0 a1 c0 a3;obtain⟨z,hz⟩:∃z:Int,((xs.length - (ys.length+1):Nat):Int)=z:=⟨_,rfl⟩;rw[show mz (xs.length - (ys.length+1)) (.mark x) =.iface 269 (.agg #[.int .i64 (xs.length - (ys.length+1):Nat),.int .u8 x.toNat]) from rfl];rw[hz] at a2 a4 ⊢;clear hz;go_wp2_with fail;(with_reducible refine a2.out.mono ?_);rintro e w2 ⟨nd',h1,rfl,h2,h3⟩;have R:=Qa (And.intro h1 (And.intro h2 h3));clear h1 h2 h3;go_wp2_with fail;go_end0;exact⟨nd',R.out.1,rfl,a4.out.trans R.out.2.1,R.out.2.2⟩
theorem zZ (hw:want=2\/want=3)(h:iE w0 rb lb xb v xs ⟨f::fs,want,none⟩ k nd w aU aE)(ho:f.obj=true)(hn:f.name=none){y:UInt8}(hd:(xs.drop k).dropWhile cO=y::ys)(hx:dm (y::ys)=some (.str s,n))(a3:s∉f.mems.map Prod.fst) :
  Calls Tryz.prog 96 #[.pointer (some ⟨rb,0,none⟩)] w fun e w'=>Gb w0.heap.size rb lb xb v xs ⟨{f with name:=some s}::fs,4,none⟩ (xs.length - (ys.length+1)+n) nd w e w':=by
 obtain⟨by_,dp,ex,ov,nv,maps,hA⟩:=h.ps.1;have c0:=aa hA.row (j:=0) (u:=.pointer (some ⟨lb,0,none⟩)) rfl;have a6:=Qa (h.next hd hx);have H:=Qa h;have a7:jr s:=sh (by have h1:=ik (xs.drop k);rw[hd,List.length_drop] at h1;have:=h.len;omega) hx;have hcn:=h.cnt;have b2:=mF f fs;have b4:=Qa a7;have b3:=Qa a3;have q1:=wV;have q2:=mY;have q3:=lI;have a5:=Qa (show fs.length<=1000000000/\f.mems.length<=1000000000 by simp only at hcn;omega);clear h hd hx hA a7 a3 hcn b2;rcases hw with rfl|rfl
 all_goals
  go_enter Tryz.func96,Tryz.ntmps96;go_wp2_with fail;(with_reducible refine a6.out.mono ?_);rintro e w1 ⟨rfl,hL⟩;have a0:=ac w1 (.cells #[.int .i64 (xs.length - (ys.length+1):Nat),.string s] 272);have a1:=Zb H.out.below.size hL.below.size;have a4:=hL.ps.1.below a0;obtain⟨bs,b1⟩:=hL.ps.2;have b0:=Qa (BP (p:=(xs.length - (ys.length+1):Nat)) a4 (b1.below a0) ho hn b3.out b4.out.2 a5.out.1 a5.out.2 (Zb a1 a0.size));have a9:=Qa ((cK.rd hL.below hL.kp).trans (cK.new a0 a1));obtain⟨by9,dp9,ex9,ov9,nv9,maps9,a2⟩:=a4;have c14:=aa a2.row (j:=14) rfl;simp only[dD] at c14;clear hL a0 a1 c0 a6 a2 b1;obtain⟨z,hz⟩:∃z:Int,((xs.length - (ys.length+1):Nat):Int)=z:=⟨_,rfl⟩;rw[show mz (xs.length - (ys.length+1)) (.str s) =.iface 272 (.agg #[.int .i64 (xs.length - (ys.length+1):Nat),.string s]) from rfl];rw[hz] at b0 a9 c14 ⊢;clear hz;go_wp2_with fail;(with_reducible refine b0.out.mono ?_);rintro e w2 ⟨rfl,h2,h3⟩;have R:=Qa (And.intro h2 h3);clear h2 h3;go_wp2_with fail;(try simp only[Exit.inBlock,Exit.then]);refine Zg (results_none rfl ..) rfl ?_;exact⟨nd,Nat.le_succ _,rfl,a9.out.trans R.out.1,R.out.2⟩
theorem zT (hw:want=0\/want=1)(h:iE w0 rb lb xb v xs ⟨frs,want,none⟩ k nd w aU aE){y:UInt8}(hd:(xs.drop k).dropWhile cO=y::ys)(hx:dm (y::ys)=some (.str s,n)) :
  Calls Tryz.prog 96 #[.pointer (some ⟨rb,0,none⟩)] w fun e w'=>Gb w0.heap.size rb lb xb v xs (bX frs (eI s)) (xs.length - (ys.length+1)+n) nd w e w':=by
 obtain⟨by_,dp,ex,ov,nv,maps,hA⟩:=h.ps.1;have c0:=aa hA.row (j:=0) (u:=.pointer (some ⟨lb,0,none⟩)) rfl;have a6:=Qa (h.next hd hx);have H:=Qa h;have hcn:=h.cnt;have b1:=kJ frs;have a5:kG frs:=mE (N:=jr) hcn (dh h.ok.want hw).2;have b0:=Qa a5;have q1:=wV;have q2:=mY;have q3:=lI;have b2:=Qa (show frs.length<=1000000000 by simp only at hcn;omega);clear h hd hx hA hcn b1 a5;rcases hw with rfl|rfl
 all_goals
  go_enter Tryz.func96,Tryz.ntmps96;go_wp2_with fail;(with_reducible refine a6.out.mono ?_);rintro e w1 ⟨rfl,hL⟩;have a0:=ac w1 (.cells #[.int .i64 (xs.length - (ys.length+1):Nat),.string s] 272);have a1:=Zb H.out.below.size hL.below.size;have a4:=hL.ps.1.below a0;obtain⟨bs,a9⟩:=hL.ps.2;have a2:=Qa (ul (k0:=xs.length - (ys.length+1)) (t:=.str s) (j:=eI s) (.inr ⟨s,rfl,rfl⟩) (by simp) a4 (a9.below a0) b0.out b2.out H.out.nds (Zb a1 a0.size));rw[show mz (xs.length - (ys.length+1)) (.str s) =.iface 272 (.agg #[.int .i64 (xs.length - (ys.length+1):Nat),.string s]) from rfl] at a2;have a7:=Qa ((cK.rd hL.below hL.kp).trans (cK.new a0 a1));obtain⟨by9,dp9,ex9,ov9,nv9,maps9,a3⟩:=a4;have c14:=aa a3.row (j:=14) rfl;simp only[dD] at c14;clear hL a0 a1 c0 a6 a3 a9;obtain⟨z,hz⟩:∃z:Int,((xs.length - (ys.length+1):Nat):Int)=z:=⟨_,rfl⟩;rw[show mz (xs.length - (ys.length+1)) (.str s) =.iface 272 (.agg #[.int .i64 (xs.length - (ys.length+1):Nat),.string s]) from rfl];rw[hz] at a2 a7 c14 ⊢;clear hz;go_wp2_with fail;(with_reducible refine a2.out.mono ?_);rintro e w2 ⟨rfl,h2,h3⟩;have R:=Qa (And.intro h2 h3);clear h2 h3;go_wp2_with fail;go_end0;exact⟨nd+1,Za _,rfl,a7.out.trans R.out.1,R.out.2⟩
theorem yZ (hw:want=0\/want=1)(h:iE w0 rb lb xb v xs ⟨frs,want,none⟩ k nd w aU aE){y:UInt8}(hd:(xs.drop k).dropWhile cO=y::ys)(hx:dm (y::ys)=some (.leaf j,n)) :
  Calls Tryz.prog 96 #[.pointer (some ⟨rb,0,none⟩)] w fun e w'=>Gb w0.heap.size rb lb xb v xs (bX frs j) (xs.length - (ys.length+1)+n) nd w e w':=by
 obtain⟨by_,dp,ex,ov,nv,maps,hA⟩:=h.ps.1;have c0:=aa hA.row (j:=0) (u:=.pointer (some ⟨lb,0,none⟩)) rfl;have a4:=Qa (h.next hd hx);have H:=Qa h;have hcn:=h.cnt;have a9:=kJ frs;have a1:kG frs:=mE (N:=jr) hcn (dh h.ok.want hw).2;have a7:=Qa a1;have a0:=yX hx;have b3:=Qa a0;have b0:=Qa (show frs.length<=1000000000 by simp only at hcn;omega);have Hw:=Qa hw;obtain⟨tt,tx,a3,b4,b6,b5⟩:∃tt tx,mz (xs.length - (ys.length+1)) (.leaf j) =.iface tt tx/\(∀W,(Instr.typeAssert (.iface tt tx) 262 267 true).run Tryz.prog W =.ok (.tuple #[.agg #[.int .i64 0],.bool false]) W)/\
   (∀W,(Instr.typeAssert (.iface tt tx) 262 269 true).run Tryz.prog W =.ok (.tuple #[.agg #[.int .i64 0,.int .u8 0],.bool false]) W)/\(∀W,(Instr.typeAssert (.iface tt tx) 262 272 true).run Tryz.prog W =.ok (.tuple #[.agg #[.int .i64 0,.string ⟨#[]⟩],.bool false]) W):=by
  cases a0 with
  |null=>exact⟨_,_,rfl,lQ _,kP _,fO _⟩
  |bool b=>exact⟨_,_,rfl,lQ _,kP _,fO _⟩
  |num d hd=>exact⟨_,_,rfl,wS _,ua _,xN _⟩
 have b1:=Qa a3;clear h hd hx hA hcn a9 a1 a0 hw a3;go_enter Tryz.func96,Tryz.ntmps96;go_wp2_with fail;(with_reducible refine a4.out.mono ?_);rintro e w1 ⟨rfl,hL⟩;have a2:=Zb H.out.below.size hL.below.size;obtain⟨bs,a6⟩:=hL.ps.2;have a5:=Qa (ul (k0:=xs.length - (ys.length+1)) (t:=.leaf j) (j:=j) (.inl ⟨rfl,b3.out⟩) Hw.out hL.ps.1 a6 a7.out b0.out H.out.nds a2);have b2:=Qa (cK.rd hL.below hL.kp);rw[b1.out] at a5 ⊢;clear hL a2 c0 a4 a6;go_wp2_with fail;(with_reducible refine a5.out.mono ?_);rintro e w2 ⟨rfl,h2,h3⟩;have R:=Qa (And.intro h2 h3);clear h2 h3;go_wp2_with fail;go_end0;exact⟨nd+1,Za _,rfl,b2.out.trans R.out.1,R.out.2⟩
theorem Br {c c':de}(h:iE w0 rb lb xb v xs c k nd w aU aE){y:UInt8}(hd:(xs.drop k).dropWhile cO=y::ys){t:rG}(hx:dm (y::ys)=some (t,n))(hs:dI c t=some c') :
  Calls Tryz.prog 96 #[.pointer (some ⟨rb,0,none⟩)] w fun e w'=>Gb w0.heap.size rb lb xb v xs c' (xs.length - (ys.length+1)+n) nd w e w':=by
 cases t with
 |mark x=>exact Ay h hd hx hs
 |leaf j=>
  obtain⟨frs,want,done⟩:=c;simp only[dI] at hs
  split at hs
  ·rename_i hw
   obtain rfl:=Zh hs;have h0:=(dh h.ok.want hw).1;simp only at h0;subst h0;exact yZ hw h hd hx
  ·cases hs
 |str s=>
  obtain⟨frs,want,done⟩:=c;simp only[dI] at hs
  split at hs
  ·rename_i hw
   have h4:done=none/\∃f fs,frs=f::fs/\f.obj=true/\f.name=none:=by
    have h3:=h.ok.want;rcases hw with rfl|rfl <;> exact h3
   obtain⟨rfl,f,fs,rfl,h5,h6⟩:=h4
   try simp only at hs
   split at hs
   ·cases hs
   ·rename_i hn
    obtain rfl:=Zh hs;refine zZ hw h h5 h6 hd hx fun hm=>hn ?_
    obtain⟨m,a0,e⟩:=List.mem_map.1 hm;exact List.any_eq_true.2 ⟨m,a0,by simp[e]⟩
  ·split at hs
   ·rename_i hw
    obtain rfl:=Zh hs;have h0:=(dh h.ok.want hw).1;simp only at h0;subst h0;exact zT hw h hd hx
   ·cases hs
