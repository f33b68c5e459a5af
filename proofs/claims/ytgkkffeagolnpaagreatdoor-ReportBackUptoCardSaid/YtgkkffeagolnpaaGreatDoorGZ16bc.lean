import Derived.Test.YtgkkffeagolnpaaGreatDoorGZ16bb
set_option linter.unusedVariables false
set_option linter.unusedSimpArgs false
set_option maxHeartbeats 64000000
set_option maxRecDepth 100000
namespace Go.Proofs.YtgkkffeagolnpaaGreatDoor
open Go.RowKit
variable {aE aU:Addr}{fin:Bool}{f:Fr}{by_ dp ex:Int}{j:JV}{frs fs:List Fr}{maps:List Nat}{xs ys:List UInt8}{B k0 lb n nd rb want xb:Nat}{nv ov v:Value}{w w' w0:World}
theorem nh:∀ (f:Nat) (xs out:List UInt8) (n:Nat) (p:List UInt8×Nat),iK out->out.length<=4*n->eM f xs out n=some p->iK p.1/\p.1.length<=4*p.2
 |0,_,_,_,_,_,_,h=>by cases h
 |f+1,xs,out,n,p,hu,hl,h=>by
  unfold eM at h
  split at h
  ·cases h
  ·injection h with h
   subst h;exact⟨hu,by simp only;omega⟩
  ·rename_i c k hp
   obtain⟨h1,h2,-⟩:=mr hp;have h3:=lS c;exact nh f _ _ _ p (hu.snoc h1) (by rw[List.length_append];simp only at h2 h3 ⊢;omega) h
theorem me {s:ByteArray}(hl:xs.length<=1000000000)(h:bK xs=some (.str s,n)):dd s:=by
 cases xs with
 |nil=>cases h
 |cons x xs=>
  simp only[bK] at h
  split at h
  ·injection h with h;injection h with h _;cases h
  ·rw[Option.map_eq_some_iff] at h;obtain⟨j,-,h⟩:=h;injection h with h _;cases h
  ·rw[Option.map_eq_some_iff] at h;obtain⟨j,-,h⟩:=h;injection h with h _;cases h
  ·rw[Option.map_eq_some_iff] at h;obtain⟨p,hp,h⟩:=h;injection h with h _
   injection h with h
   subst h;unfold jI at hp
   split at hp
   ·rename_i ys e
    injection e with e1 e2
    subst e2;obtain⟨h1,h2⟩:=nh _ _ _ _ _ iK.nil (Zj _) hp;have h3:=lL _ _ _ _ _ hp;rw[List.length_cons] at hl;refine⟨by obtain⟨cs,a,b⟩:=h1;exact⟨cs,a,by simpa using b⟩,?_⟩
    show(p.1.toArray).size<=_
    rw[List.size_toArray];omega
   ·cases hp
  ·cases h
theorem kl (h:bK xs=some (.leaf j,n)):sm j:=by
 cases xs with
 |nil=>cases h
 |cons x xs=>
  simp only[bK] at h
  split at h
  ·injection h with h;injection h with h _;cases h
  ·rw[Option.map_eq_some_iff] at h;obtain⟨j',hj,h⟩:=h;injection h with h _
   injection h with h
   subst h;unfold kW at hj
   split at hj
   ·obtain rfl:=Zi hj;exact .null
   ·split at hj
    ·obtain rfl:=Zi hj;exact .bool true
    ·split at hj
     ·obtain rfl:=Zi hj;exact .bool false
     ·cases hj
  ·rw[Option.map_eq_some_iff] at h;obtain⟨p,hp,h⟩:=h;injection h with h _
   injection h with h
   subst h;unfold lD at hp;simp only at hp
   split at hp
   ·rw[Option.map_eq_some_iff] at hp;obtain⟨d,hd,rfl⟩:=hp;refine .num d ?_;unfold gd at hd;simp only at hd
    split at hd
    ·obtain rfl:=Zi hd;simp
    ·split at hd
     ·rename_i hx;obtain rfl:=Zi hd;exact hx
     ·cases hd
   ·cases hp
  ·rw[Option.map_eq_some_iff] at h;obtain⟨p,-,h⟩:=h;injection h with h _;cases h
  ·cases h
theorem pM {t:lx}(hl:xs.length<=1000000000)(h:bK xs=some (t,n)):FY dd t:=by
 cases t with
 |mark c=>trivial
 |leaf j=>trivial
 |str s=>exact me hl h
theorem sf {k:Nat}{t:lx}{bs:List Nat}(ht:(t =.leaf j/\sm j)\/∃s,t =.str s/\j=aZ s)(hw:want=0\/want=1)(hR:gK B w rb lb xb v xs frs want k nd false)(a0:d8 B w xb frs none bs)(hT:jy frs)(hl:frs.length<=1000000000)(hn:nd<=1000000000)(hB:B<=w.heap.size) :
  Calls Tryz.prog 170 #[.pointer (some ⟨rb,0,none⟩),eV k0 t] w (It B rb lb xb v xs (bD frs j) k (nd+1) false w):=by
 rcases ht with ⟨rfl,hj⟩|⟨s,rfl,rfl⟩
 ·cases hj with
  |null=>
   have hs:=fun w=>rQ k0 w
   have hm:∀W,(Instr.typeAssert (.iface 343 (.agg #[])) 220 313 true).run Tryz.prog W =.ok (.tuple #[.agg #[.bool false,.string ⟨#[]⟩,.int .i64 0],.bool false]) W:=fun W=>by kernel_rfl
   exact ja hw hR a0 hT hl hn hB hs (fun P w=>VW.null) rfl hm
  |bool b=>
   have hs:=fun w=>sI k0 b w
   have hm:∀W,(Instr.typeAssert (.iface 341 (.bool b)) 220 313 true).run Tryz.prog W =.ok (.tuple #[.agg #[.bool false,.string ⟨#[]⟩,.int .i64 0],.bool false]) W:=fun W=>by kernel_rfl
   exact ja hw hR a0 hT hl hn hB hs (fun P w=>VW.bool b) rfl hm
  |num d hd=>
   have hs:=fun w=>vc k0 d w
   exact DB hw hR a0 hT hl hn hB hs (fun P w=>VW.num d) d rfl hd
 ·have hs:=fun w=>vM k0 s w
  have hm:∀W,(Instr.typeAssert (.iface 78 (.string s)) 220 313 true).run Tryz.prog W =.ok (.tuple #[.agg #[.bool false,.string ⟨#[]⟩,.int .i64 0],.bool false]) W:=fun W=>by kernel_rfl
  exact ja hw hR a0 hT hl hn hB hs (fun P w=>VW.text s) rfl hm
theorem xg {d:Option JV}(h:ur want frs d):want<8:=by
 rcases want with _|_|_|_|_|_|_|_|n <;> first|omega|exact h.elim
theorem lQ {N:ByteArray->Prop}(h:cQ frs<=1000000000)(hw:∀f fs,frs=f::fs->bS f=false):jy frs:=by
 refine⟨by have:=jK frs;omega,fun f fs e=>⟨hw f fs e,?_⟩⟩;subst e;have:=iA f fs;omega
def GD (B rb lb xb:Nat)(v:Value)(xs:List UInt8)(c:bR)(k nd:Nat)(w:World)(e:Ending)(w':World):Prop:= ∃nd',nd'<=nd+1/\It B rb lb xb v xs c k nd' false w e w'
theorem C7 {k:Nat}{c c':bR}{x:UInt8}{p:Int}(hM:iE w)(h:PS B rb lb xb v xs c k nd false w)(a4:c.ok dd)(hs:bH c (.mark x)=some c')(hc:cQ c.frs<=1000000000)(hn:nd<=1000000000)(hB:B<=w.heap.size) :
  Calls Tryz.prog 168 #[.pointer (some ⟨rb,0,none⟩),.agg #[.int .i64 p,.int .u8 x.toNat]] w (GD B rb lb xb v xs c' k nd w):=by
 obtain⟨frs,want,done⟩:=c;obtain⟨h1,h2,h3⟩:=a4;obtain⟨hR,bs,a0⟩:=h;simp only at h1 h2 h3 hR a0 hc;have hlen:=jK frs;have a1:=xg h3;simp only[bH] at hs
 split at hs
 case isFalse=>cases hs
 rename_i hm
 rcases uk hm with ⟨hx,hw⟩|⟨hx,hw⟩|⟨hx,hw⟩|⟨hx,hw⟩|⟨hx,hw⟩
 ·obtain⟨hd,hq⟩:=cL h3 hw;subst hd;rcases hx with rfl|rfl
  ·rw[if_pos rfl] at hs;obtain rfl:=Zi hs;exact(eD hM a1 hm hR a0 hB (.open5 _ (by omega) hn hq)).mono fun e w' h=>⟨_,Zb _,h⟩
  ·rw[if_neg (by decide),if_pos rfl] at hs;obtain rfl:=Zi hs;exact(eD hM a1 hm hR a0 hB (.open6 _ (by omega) hn hq)).mono fun e w' h=>⟨_,Zb _,h⟩
 ·subst hx;rw[if_neg (by decide),if_neg (by decide)] at hs
  cases frs with
  |nil=>cases hs
  |cons f fs=>
   simp only[true_or,if_true] at hs;obtain rfl:=Zi hs;have a5:=iA f fs;have a9:cQ fs<=cQ (f::fs):=by simp[cQ]
   have hob:f.obj=false:=by
    rcases hw with rfl|rfl
    ·obtain⟨-,g,gs,e,h⟩:=h3;injection e with e _;rw[e];exact h
    ·obtain⟨-,g,gs,e,h⟩:=h3;injection e with e _;rw[e];exact h
   have a3:done=none:=by rcases hw with rfl|rfl <;> exact h3.1
   subst a3;have a2:=h1 f (by simp);exact(eD hM a1 hm hR a0 hB (.close5 _ _ hob (a2.list hob).2 a2 (by omega) (by omega) (lQ (N:=dd) (by omega) (fun g gs e=>h2 g (by rw[List.tail_cons,e];simp))) (by omega))).mono fun e w' h=>⟨_,Nat.le_succ _,h⟩
 ·subst hx;rw[if_neg (by decide),if_neg (by decide)] at hs
  cases frs with
  |nil=>cases hs
  |cons f fs=>
   simp only[or_true,if_true] at hs;obtain rfl:=Zi hs;have a5:=iA f fs;have a9:cQ fs<=cQ (f::fs):=by simp[cQ]
   have hob:f.obj=true/\f.name=none:=by
    rcases hw with rfl|rfl
    ·obtain⟨-,g,gs,e,h⟩:=h3;injection e with e _;rw[e];exact h
    ·obtain⟨-,g,gs,e,h⟩:=h3;injection e with e _;rw[e];exact h
   have a3:done=none:=by rcases hw with rfl|rfl <;> exact h3.1
   subst a3;have a2:=h1 f (by simp);exact(eD hM a1 hm hR a0 hB (.close6 _ _ hob.1 hob.2 a2 (by omega) (by omega) (lQ (N:=dd) (by omega) (fun g gs e=>h2 g (by rw[List.tail_cons,e];simp))) (by omega))).mono fun e w' h=>⟨_,Nat.le_succ _,h⟩
 ·obtain⟨rfl,rfl⟩:=And.intro hx hw;rw[if_neg (by decide),if_neg (by decide)] at hs;obtain⟨rfl,f,fs,rfl,h5,h6⟩:=h3
  try simp only at hs
  rw[if_neg (by decide),if_neg (by decide)] at hs;obtain rfl:=Zi hs;exact(eD hM a1 hm hR a0 hB (.colon _)).mono fun e w' h=>⟨_,Nat.le_succ _,h⟩
 ·subst hx;rw[if_neg (by decide),if_neg (by decide)] at hs
  cases frs with
  |nil=>cases hs
  |cons f fs=>
   try simp only at hs
   rw[if_neg (by decide)] at hs;simp only[if_true] at hs;obtain rfl:=Zi hs;rw[List.length_cons] at hlen;rcases hw with rfl|rfl
   ·obtain⟨rfl,g,gs,e,h5⟩:=h3;injection e with e1 e2
    subst e1 e2;have:=eD (p:=p) hM a1 hm hR a0 hB (.comma5 _ _ h5 (by omega));simp only[h5,Bool.false_eq_true,if_false] at this ⊢;exact this.mono fun e w' h=>⟨_,Nat.le_succ _,h⟩
   ·obtain⟨rfl,g,gs,e,h5,h6⟩:=h3;injection e with e1 e2
    subst e1 e2;have:=eD (p:=p) hM a1 hm hR a0 hB (.comma6 _ _ h5 (by omega));simp only[h5,if_true] at this ⊢;exact this.mono fun e w' h=>⟨_,Nat.le_succ _,h⟩
theorem fW.lexed {k k':Nat}(h:fW B w rb lb xb v xs frs want k nd fin by_ dp ex ov nv maps)(hl:kE w' lb v xs k')(hc:aP (fun i=>i=lb) w w')(hk:k'<=xs.length):fW B w' rb lb xb v xs frs want k' nd fin by_ dp ex ov nv maps/\Kp js w w':=by
 obtain⟨h1,h2,h3,h4,h5,h6,h7,h8,h9,a2⟩:=h;have a0:Kp (fun e=>e=285) w w':=Kp.of_chg hc fun g e _=>by subst e;exact⟨_,_,_,h3.1,rfl⟩
 have a1:aq w' B v xs:=aw h5 a0.keeps (by decide);exact⟨⟨a0.heap h1 (by decide),h2,hl,h4,a1,aw h6 a0.keeps (by decide),aw h7 a0.keeps (by decide),iV.seens h8 a0,h9,hk⟩,a0.imp fun e he=>.inr (.inl he)⟩
theorem Dq {k:Nat}{bs:List Nat}{done:Option JV}(hE:lg w aU aE)(hR:gK B w rb lb xb v xs [] 7 k nd false)(b2:d8 B w xb [] done bs)(hl:xs.length<=1000000000)(hB:B<=w.heap.size)(hd:(xs.drop k).dropWhile bA = []) :
  Calls Tryz.prog 139 #[.pointer (some ⟨rb,0,none⟩)] w fun e w'=>e =.returned (.tuple #[])/\bQ B w w'/\gK B w' rb lb xb v xs [] 7 xs.length nd true/\d8 B w' xb [] done bs:=by
 obtain⟨by_,dp,ex,ov,nv,maps,hA⟩:=hR;have c0:=ac hA.row (j:=0) (u:=.pointer (some ⟨lb,0,none⟩)) rfl;have b5:=Qa (kZ hE hA.lex hA.le hl hd);have HA:=Qa hA;have b8:=Qa b2;have HB:=Qa hB;have q1:=Bp;clear hE b2 hl hB hd hA;go_enter Tryz.func139,Tryz.ntmps139;go_wp2_with fail;refine Za b5 ?_;rintro e w1 ⟨rfl,b4,a5⟩;obtain⟨b1,a9⟩:=HA.out.lexed b4 a5 (Zb _);have a1:=b8.out.kp a9 bE;have a4:Below B w w1:=a5.below HB.out fun i e=>by rw[e];exact HA.out.llow
 have a0:=aa w1 (.cells #[.int .i64 xs.length] 291);obtain⟨w2,b3⟩:∃w2,w1.alloc (.cells #[.int .i64 xs.length] 291)=w2:=⟨_,rfl⟩;rw[b3] at a0;have a3:=b1.below a0;have c14:=ac a3.row (j:=14) (u:=.int .i64 7) rfl;have c15:=ac a3.row (j:=15) (u:=.bool false) rfl;have f15:=al a3.row 15;have a2:=Zc (Zc HB.out a4.size) a0.size;have Hs:=Qa (a3.setDone a2 true);have b9:=Qa ((bQ.rd a4 a9).trans (bQ.new a0 (Zc HB.out a4.size)));have b0:=Qa (a1.below a0);clear b4 a5 b1 a9 a1 a4 a0 a3 a2 c0 b5;go_wp2_with fail;go_end0
 try rw[b3]
 exact⟨rfl,b9.out.trans (bQ.rd Hs.out.1 Hs.out.2.1),Hs.out.2.2.s,b0.out.kp Hs.out.2.1 bE⟩
structure cY (w0:World) (rb lb xb:Nat) (v:Value) (xs:List UInt8) (c:bR) (k nd:Nat) (w:World) (aU aE:Addr):Prop where
 env:lg w0 aU aE
 may:iE w0
 ps:PS w0.heap.size rb lb xb v xs c k nd false w
 ok:c.ok dd
 cnt:cQ c.frs<=1000000000
 nds:nd<=1000000000
 len:xs.length<=1000000000
 below:Below w0.heap.size w0 w
structure IH (B:Nat) (rb lb xb:Nat) (v:Value) (xs:List UInt8) (c:bR) (k nd:Nat) (w w1:World):Prop where
 ps:PS B rb lb xb v xs c k nd false w1
 below:Below B w w1
 kp:Kp js w w1
theorem cY.next {k:Nat}{c:bR}(h:cY w0 rb lb xb v xs c k nd w aU aE){y:UInt8}(hd:(xs.drop k).dropWhile bA=y::ys){t:lx}(hx:bK (y::ys)=some (t,n)) :
  Calls Tryz.prog 166 #[.pointer (some ⟨lb,0,none⟩)] w fun e w1=>e =.returned (.tuple #[eV (xs.length - (ys.length+1)) t,.nilIface])/\IH w0.heap.size rb lb xb v xs c (xs.length - (ys.length+1)+n) nd w w1:=by
 obtain⟨⟨by_,dp,ex,ov,nv,maps,hA⟩,bs,a4⟩:=h.ps;refine(qU (h.env.below h.below) hA.lex hA.le h.len hd hx).mono ?_;rintro e w1 ⟨rfl,a2,a1⟩;have hn:=(gU hx).2;rw[List.length_cons] at hn;have a5:ys.length+1<=xs.length:=by
  have h1:=bV (xs.drop k);rw[hd,List.length_cons,List.length_drop] at h1;omega
 obtain⟨a3,a0⟩:=hA.lexed a2 a1 (by omega);exact⟨rfl,⟨a3.s,bs,a4.kp a0 bE⟩,a1.below h.below.size fun i e=>by rw[e];exact hA.llow,a0⟩
theorem xD {k:Nat}{c c':bR}(h:cY w0 rb lb xb v xs c k nd w aU aE){y:UInt8}(hd:(xs.drop k).dropWhile bA=y::ys){x:UInt8}(hx:bK (y::ys)=some (.mark x,n))(hs:bH c (.mark x)=some c') :
  Calls Tryz.prog 139 #[.pointer (some ⟨rb,0,none⟩)] w fun e w'=>GD w0.heap.size rb lb xb v xs c' (xs.length - (ys.length+1)+n) nd w e w':=by
 obtain⟨by_,dp,ex,ov,nv,maps,hA⟩:=h.ps.1;have c0:=ac hA.row (j:=0) (u:=.pointer (some ⟨lb,0,none⟩)) rfl;have a4:=Qa (h.next hd hx);have H:=Qa h;have Hs:=Qa hs;have q1:=wT;have q2:=kT;clear h hd hx hs hA;go_enter Tryz.func139,Tryz.ntmps139;go_wp2_with fail;refine Za a4 ?_;rintro e w1 ⟨rfl,hL⟩;have HL:=Qa hL;have a0:=aa w1 (.cells #[.int .i64 (xs.length - (ys.length+1):Nat),.int .u8 x.toNat] 293);have a1:=Zc H.out.below.size hL.below.size;have a3:=Qa (C7 (p:=(xs.length - (ys.length+1):Nat)) (H.out.may.below ((H.out.below.trans hL.below).trans (a0.mono a1))) (⟨hL.ps.1.below a0,by obtain⟨bs,hb⟩:=hL.ps.2;exact⟨bs,hb.below a0⟩⟩:PS w0.heap.size rb lb xb v xs c _ nd false _) H.out.ok Hs.out H.out.cnt H.out.nds (Zc a1 a0.size));have a2:=Qa ((bQ.rd hL.below hL.kp).trans (bQ.new a0 a1));clear hL a0 a1 c0 a4;obtain⟨z,hz⟩:∃z:Int,((xs.length - (ys.length+1):Nat):Int)=z:=⟨_,rfl⟩;rw[show eV (xs.length - (ys.length+1)) (.mark x) =.iface 293 (.agg #[.int .i64 (xs.length - (ys.length+1):Nat),.int .u8 x.toNat]) from rfl];rw[hz] at a3 a2 ⊢;clear hz;go_wp2_with fail;refine Za a3 ?_;rintro e w2 ⟨nd',h1,rfl,h2,h3⟩;have R:=Qa (And.intro h1 (And.intro h2 h3));clear h1 h2 h3;go_wp2_with fail;go_end0;exact⟨nd',R.out.1,rfl,a2.out.trans R.out.2.1,R.out.2.2⟩
theorem yw {k:Nat}(hw:want=2\/want=3)(h:cY w0 rb lb xb v xs ⟨f::fs,want,none⟩ k nd w aU aE)(ho:f.obj=true)(hn:f.name=none){y:UInt8}(hd:(xs.drop k).dropWhile bA=y::ys){s:ByteArray}(hx:bK (y::ys)=some (.str s,n))(b3:s∉f.mems.map Prod.fst) :
  Calls Tryz.prog 139 #[.pointer (some ⟨rb,0,none⟩)] w fun e w'=>GD w0.heap.size rb lb xb v xs ⟨{f with name:=some s}::fs,4,none⟩ (xs.length - (ys.length+1)+n) nd w e w':=by
 obtain⟨by_,dp,ex,ov,nv,maps,hA⟩:=h.ps.1;have c0:=ac hA.row (j:=0) (u:=.pointer (some ⟨lb,0,none⟩)) rfl;have b4:=Qa (h.next hd hx);have H:=Qa h;have a4:dd s:=me (by have h1:=bV (xs.drop k);rw[hd,List.length_drop] at h1;have:=h.len;omega) hx;have b2:=h.cnt;have b9:=iA f fs;have b8:=Qa a4;have b5:=Qa b3;have q1:=mE;have q2:=fT;have q3:=eT;have a5:=Qa (show fs.length<=1000000000/\f.mems.length<=1000000000 by simp only at b2;omega);clear h hd hx hA a4 b3 b2 b9;rcases hw with rfl|rfl
 all_goals
  go_enter Tryz.func139,Tryz.ntmps139;go_wp2_with fail;refine Za b4 ?_;rintro e w1 ⟨rfl,hL⟩;have a0:=aa w1 (.cells #[.int .i64 (xs.length - (ys.length+1):Nat),.string s] 296);have a1:=Zc H.out.below.size hL.below.size;have a2:=hL.ps.1.below a0;obtain⟨bs,b1⟩:=hL.ps.2;have a3:=Qa (AG (p:=(xs.length - (ys.length+1):Nat)) a2 (b1.below a0) ho hn b5.out b8.out.2 a5.out.1 a5.out.2 (Zc a1 a0.size));have b0:=Qa ((bQ.rd hL.below hL.kp).trans (bQ.new a0 a1));obtain⟨by9,dp9,ex9,ov9,nv9,maps9,a9⟩:=a2;have c14:=ac a9.row (j:=14) rfl;simp only[bI] at c14;clear hL a0 a1 c0 b4 a9 b1;obtain⟨z,hz⟩:∃z:Int,((xs.length - (ys.length+1):Nat):Int)=z:=⟨_,rfl⟩;rw[show eV (xs.length - (ys.length+1)) (.str s) =.iface 296 (.agg #[.int .i64 (xs.length - (ys.length+1):Nat),.string s]) from rfl];rw[hz] at a3 b0 c14 ⊢;clear hz;go_wp2_with fail;refine Za a3 ?_;rintro e w2 ⟨rfl,h2,h3⟩;have R:=Qa (And.intro h2 h3);clear h2 h3;go_wp2_with fail;(try simp only[Exit.inBlock,Exit.then]);refine Zh (results_none rfl ..) rfl ?_;exact⟨nd,Nat.le_succ _,rfl,b0.out.trans R.out.1,R.out.2⟩
theorem zC {k:Nat}(hw:want=0\/want=1)(h:cY w0 rb lb xb v xs ⟨frs,want,none⟩ k nd w aU aE){y:UInt8}(hd:(xs.drop k).dropWhile bA=y::ys){s:ByteArray}(hx:bK (y::ys)=some (.str s,n)) :
  Calls Tryz.prog 139 #[.pointer (some ⟨rb,0,none⟩)] w fun e w'=>GD w0.heap.size rb lb xb v xs (bD frs (aZ s)) (xs.length - (ys.length+1)+n) nd w e w':=by
 obtain⟨by_,dp,ex,ov,nv,maps,hA⟩:=h.ps.1;have c0:=ac hA.row (j:=0) (u:=.pointer (some ⟨lb,0,none⟩)) rfl;have b2:=Qa (h.next hd hx);have H:=Qa h;have a3:=h.cnt;have b3:=jK frs;have a5:jy frs:=lQ (N:=dd) a3 (cL h.ok.want hw).2;have b5:=Qa a5;have q1:=mE;have q2:=fT;have q3:=eT;have b4:=Qa (show frs.length<=1000000000 by simp only at a3;omega);clear h hd hx hA a3 b3 a5;rcases hw with rfl|rfl
 all_goals
  go_enter Tryz.func139,Tryz.ntmps139;go_wp2_with fail;refine Za b2 ?_;rintro e w1 ⟨rfl,hL⟩;have a0:=aa w1 (.cells #[.int .i64 (xs.length - (ys.length+1):Nat),.string s] 296);have a2:=Zc H.out.below.size hL.below.size;have a4:=hL.ps.1.below a0;obtain⟨bs,b1⟩:=hL.ps.2;have a1:=Qa (sf (k0:=xs.length - (ys.length+1)) (t:=.str s) (j:=aZ s) (.inr ⟨s,rfl,rfl⟩) (by simp) a4 (b1.below a0) b5.out b4.out H.out.nds (Zc a2 a0.size));rw[show eV (xs.length - (ys.length+1)) (.str s) =.iface 296 (.agg #[.int .i64 (xs.length - (ys.length+1):Nat),.string s]) from rfl] at a1;have b0:=Qa ((bQ.rd hL.below hL.kp).trans (bQ.new a0 a2));obtain⟨by9,dp9,ex9,ov9,nv9,maps9,a9⟩:=a4;have c14:=ac a9.row (j:=14) rfl;simp only[bI] at c14;clear hL a0 a2 c0 b2 a9 b1;obtain⟨z,hz⟩:∃z:Int,((xs.length - (ys.length+1):Nat):Int)=z:=⟨_,rfl⟩;rw[show eV (xs.length - (ys.length+1)) (.str s) =.iface 296 (.agg #[.int .i64 (xs.length - (ys.length+1):Nat),.string s]) from rfl];rw[hz] at a1 b0 c14 ⊢;clear hz;go_wp2_with fail;refine Za a1 ?_;rintro e w2 ⟨rfl,h2,h3⟩;have R:=Qa (And.intro h2 h3);clear h2 h3;go_wp2_with fail;go_end0;exact⟨nd+1,Zb _,rfl,b0.out.trans R.out.1,R.out.2⟩
theorem yS {k:Nat}(hw:want=0\/want=1)(h:cY w0 rb lb xb v xs ⟨frs,want,none⟩ k nd w aU aE){y:UInt8}(hd:(xs.drop k).dropWhile bA=y::ys)(hx:bK (y::ys)=some (.leaf j,n)) :
  Calls Tryz.prog 139 #[.pointer (some ⟨rb,0,none⟩)] w fun e w'=>GD w0.heap.size rb lb xb v xs (bD frs j) (xs.length - (ys.length+1)+n) nd w e w':=by
 obtain⟨by_,dp,ex,ov,nv,maps,hA⟩:=h.ps.1;have c0:=ac hA.row (j:=0) (u:=.pointer (some ⟨lb,0,none⟩)) rfl;have b0:=Qa (h.next hd hx);have H:=Qa h;have a1:=h.cnt;have b2:=jK frs;have a2:jy frs:=lQ (N:=dd) a1 (cL h.ok.want hw).2;have b8:=Qa a2;have a0:=kl hx;have b3:=Qa a0;have b4:=Qa (show frs.length<=1000000000 by simp only at a1;omega);have Hw:=Qa hw;obtain⟨tt,tx,a9,c2,c1,b9⟩:∃tt tx,eV (xs.length - (ys.length+1)) (.leaf j) =.iface tt tx/\(∀W,(Instr.typeAssert (.iface tt tx) 287 291 true).run Tryz.prog W =.ok (.tuple #[.agg #[.int .i64 0],.bool false]) W)/\
   (∀W,(Instr.typeAssert (.iface tt tx) 287 293 true).run Tryz.prog W =.ok (.tuple #[.agg #[.int .i64 0,.int .u8 0],.bool false]) W)/\(∀W,(Instr.typeAssert (.iface tt tx) 287 296 true).run Tryz.prog W =.ok (.tuple #[.agg #[.int .i64 0,.string ⟨#[]⟩],.bool false]) W):=by
  cases a0 with
  |null=>exact⟨_,_,rfl,eU _,eh _,dh _⟩
  |bool b=>exact⟨_,_,rfl,eU _,eh _,dh _⟩
  |num d hd=>exact⟨_,_,rfl,mF _,kO _,mC _⟩
 have b1:=Qa a9;clear h hd hx hA a1 b2 a2 a0 hw a9;go_enter Tryz.func139,Tryz.ntmps139;go_wp2_with fail;refine Za b0 ?_;rintro e w1 ⟨rfl,hL⟩;have a4:=Zc H.out.below.size hL.below.size;obtain⟨bs,a5⟩:=hL.ps.2;have a3:=Qa (sf (k0:=xs.length - (ys.length+1)) (t:=.leaf j) (j:=j) (.inl ⟨rfl,b3.out⟩) Hw.out hL.ps.1 a5 b8.out b4.out H.out.nds a4);have b5:=Qa (bQ.rd hL.below hL.kp);rw[b1.out] at a3 ⊢;clear hL a4 c0 b0 a5;go_wp2_with fail;refine Za a3 ?_;rintro e w2 ⟨rfl,h2,h3⟩;have R:=Qa (And.intro h2 h3);clear h2 h3;go_wp2_with fail;go_end0;exact⟨nd+1,Zb _,rfl,b5.out.trans R.out.1,R.out.2⟩
theorem rA {k:Nat}{c c':bR}(h:cY w0 rb lb xb v xs c k nd w aU aE){y:UInt8}(hd:(xs.drop k).dropWhile bA=y::ys){t:lx}(hx:bK (y::ys)=some (t,n))(hs:bH c t=some c') :
  Calls Tryz.prog 139 #[.pointer (some ⟨rb,0,none⟩)] w fun e w'=>GD w0.heap.size rb lb xb v xs c' (xs.length - (ys.length+1)+n) nd w e w':=by
 cases t with
 |mark x=>exact xD h hd hx hs
 |leaf j=>
  obtain⟨frs,want,done⟩:=c;simp only[bH] at hs
  split at hs
  ·rename_i hw
   obtain rfl:=Zi hs;have h0:=(cL h.ok.want hw).1;simp only at h0;subst h0;exact yS hw h hd hx
  ·cases hs
 |str s=>
  obtain⟨frs,want,done⟩:=c;simp only[bH] at hs
  split at hs
  ·rename_i hw
   have h4:done=none/\∃f fs,frs=f::fs/\f.obj=true/\f.name=none:=by
    have h3:=h.ok.want;rcases hw with rfl|rfl <;> exact h3
   obtain⟨rfl,f,fs,rfl,h5,h6⟩:=h4
   try simp only at hs
   split at hs
   ·cases hs
   ·rename_i hn
    obtain rfl:=Zi hs;refine yw hw h h5 h6 hd hx fun hm=>hn ?_
    obtain⟨m,a0,e⟩:=List.mem_map.1 hm;exact List.any_eq_true.2 ⟨m,a0,by simp[e]⟩
  ·split at hs
   ·rename_i hw
    obtain rfl:=Zi hs;have h0:=(cL h.ok.want hw).1;simp only at h0;subst h0;exact zC hw h hd hx
   ·cases hs
