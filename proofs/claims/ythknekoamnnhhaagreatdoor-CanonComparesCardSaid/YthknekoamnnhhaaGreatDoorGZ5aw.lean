import Derived.Test.YthknekoamnnhhaaGreatDoorGZ5av
set_option linter.unusedVariables false
set_option linter.unusedSimpArgs false
set_option maxHeartbeats 64000000
set_option maxRecDepth 100000
namespace Go.Proofs.YthknekoamnnhhaaGreatDoor
open Go.RowKit
variable {aE aU:Addr}{fin:Bool}{d:Dc}{f:Fr}{by_ dp ex:Int}{j j0:JV}{ns:List ByteArray}{frs fs:List Fr}{ks:List JV}{maps ps:List Nat}{xs ys:List UInt8}{us:List Value}{B N cap ck cn gt lb n nd nn rb want xb:Nat}{Ak An:Option Addr}{nv ov u v vk vn:Value}{W w w' w0 w5:World}
theorem iP.lexed {k k':Nat}(h:iP B w rb lb xb v xs frs want k nd fin by_ dp ex ov nv maps)(hl:pe w' lb v xs k')(hc:br (fun i=>i=lb) w w')(hk:k'<=xs.length):iP B w' rb lb xb v xs frs want k' nd fin by_ dp ex ov nv maps/\Kp mm w w':=by
 obtain⟨h1,h2,h3,h4,h5,h6,h7,h8,h9,a2⟩:=h;have a0:Kp (fun e=>e=292) w w':=Kp.of_chg hc fun g e _=>by subst e;exact⟨_,_,_,h3.1,rfl⟩
 have a1:au w' B v xs:=ao h5 a0.keeps (by decide);exact⟨⟨a0.heap h1 (by decide),h2,hl,h4,a1,ao h6 a0.keeps (by decide),ao h7 a0.keeps (by decide),j9.seens h8 a0,h9,hk⟩,a0.imp fun e he=>.inr (.inl he)⟩
theorem DD {k:Nat}{bs:List Nat}{done:Option JV}(hE:qJ w aU aE)(hR:kc B w rb lb xb v xs [] 7 k nd false)(a9:fC B w xb [] done bs)(hl:xs.length<=1000000000)(hB:B<=w.heap.size)(hd:(xs.drop k).dropWhile cV = []) :
  Calls Tryz.prog 136 #[.pointer (some ⟨rb,0,none⟩)] w fun e w'=>e =.returned (.tuple #[])/\cZ B w w'/\kc B w' rb lb xb v xs [] 7 xs.length nd true/\fC B w' xb [] done bs:=by
 obtain⟨by_,dp,ex,ov,nv,maps,hA⟩:=hR;have c0:=aa hA.row (j:=0) (u:=.pointer (some ⟨lb,0,none⟩)) rfl;have b2:=Qa (uI hE hA.lex hA.le hl hd);have HA:=Qa hA;have b4:=Qa a9;have HB:=Qa hB;have q1:=GR;clear hE a9 hl hB hd hA;go_enter Tryz.func136,Tryz.ntmps136;go_wp2_with fail;(with_reducible refine b2.out.mono ?_);rintro e w1 ⟨rfl,b0,a7⟩;obtain⟨b3,a6⟩:=HA.out.lexed b0 a7 (Za _);have a3:=b4.out.kp a6 bY;have a4:Below B w w1:=a7.below HB.out fun i e=>by rw[e];exact HA.out.llow
 have a0:=ac w1 (.cells #[.int .i64 xs.length] 299);obtain⟨w2,b1⟩:∃w2,w1.alloc (.cells #[.int .i64 xs.length] 299)=w2:=⟨_,rfl⟩;rw[b1] at a0;have a2:=b3.below a0;have c14:=aa a2.row (j:=14) (u:=.int .i64 7) rfl;have c15:=aa a2.row (j:=15) (u:=.bool false) rfl;have f15:=am a2.row 15;have a1:=Zb (Zb HB.out a4.size) a0.size;have Hs:=Qa (a2.setDone a1 true);have b5:=Qa ((cZ.rd a4 a6).trans (cZ.new a0 (Zb HB.out a4.size)));have a5:=Qa (a3.below a0);clear b0 a7 b3 a6 a3 a4 a0 a2 a1 c0 b2;go_wp2_with fail;go_end0
 try rw[b1]
 exact⟨rfl,b5.out.trans (cZ.rd Hs.out.1 Hs.out.2.1),Hs.out.2.2.s,a5.out.kp Hs.out.2.1 bY⟩
structure jm (w0:World) (rb lb xb:Nat) (v:Value) (xs:List UInt8) (c:dH) (k nd:Nat) (w:World) (aU aE:Addr):Prop where
 env:qJ w0 aU aE
 may:kR w0
 ps:PS w0.heap.size rb lb xb v xs c k nd false w
 ok:c.ok kf
 cnt:eo c.frs<=1000000000
 nds:nd<=1000000000
 len:xs.length<=1000000000
 below:Below w0.heap.size w0 w
structure Iy (B:Nat) (rb lb xb:Nat) (v:Value) (xs:List UInt8) (c:dH) (k nd:Nat) (w w1:World):Prop where
 ps:PS B rb lb xb v xs c k nd false w1
 below:Below B w w1
 kp:Kp mm w w1
theorem jm.next {k:Nat}{c:dH}(h:jm w0 rb lb xb v xs c k nd w aU aE){y:UInt8}(hd:(xs.drop k).dropWhile cV=y::ys){t:sX}(hx:dC (y::ys)=some (t,n)) :
  Calls Tryz.prog 177 #[.pointer (some ⟨lb,0,none⟩)] w fun e w1=>e =.returned (.tuple #[mN (xs.length - (ys.length+1)) t,.nilIface])/\Iy w0.heap.size rb lb xb v xs c (xs.length - (ys.length+1)+n) nd w w1:=by
 obtain⟨⟨by_,dp,ex,ov,nv,maps,hA⟩,bs,a2⟩:=h.ps;refine(uJ (h.env.below h.below) hA.lex hA.le h.len hd hx).mono ?_;rintro e w1 ⟨rfl,a3,a1⟩;have hn:=(oH hx).2;rw[List.length_cons] at hn;have a5:ys.length+1<=xs.length:=by
  have h1:=iD (xs.drop k);rw[hd,List.length_cons,List.length_drop] at h1;omega
 obtain⟨a4,a0⟩:=hA.lexed a3 a1 (by omega);exact⟨rfl,⟨a4.s,bs,a2.kp a0 bY⟩,a1.below h.below.size fun i e=>by rw[e];exact hA.llow,a0⟩
theorem Bv {k:Nat}{c c':dH}(h:jm w0 rb lb xb v xs c k nd w aU aE){y:UInt8}(hd:(xs.drop k).dropWhile cV=y::ys){x:UInt8}(hx:dC (y::ys)=some (.mark x,n))(hs:dV c (.mark x)=some c') :
  Calls Tryz.prog 136 #[.pointer (some ⟨rb,0,none⟩)] w fun e w'=>Ii w0.heap.size rb lb xb v xs c' (xs.length - (ys.length+1)+n) nd w e w':=by
 obtain⟨by_,dp,ex,ov,nv,maps,hA⟩:=h.ps.1;have c0:=aa hA.row (j:=0) (u:=.pointer (some ⟨lb,0,none⟩)) rfl;have a3:=Qa (h.next hd hx);have H:=Qa h;have Hs:=Qa hs;have q1:=EZ;have q2:=wC;clear h hd hx hs hA;go_enter Tryz.func136,Tryz.ntmps136;go_wp2_with fail;(with_reducible refine a3.out.mono ?_);rintro e w1 ⟨rfl,hL⟩;have HL:=Qa hL;have a0:=ac w1 (.cells #[.int .i64 (xs.length - (ys.length+1):Nat),.int .u8 x.toNat] 301);have a1:=Zb H.out.below.size hL.below.size;have a2:=Qa (BZ (p:=(xs.length - (ys.length+1):Nat)) (H.out.may.below ((H.out.below.trans hL.below).trans (a0.mono a1))) (⟨hL.ps.1.below a0,by obtain⟨bs,hb⟩:=hL.ps.2;exact⟨bs,hb.below a0⟩⟩:PS w0.heap.size rb lb xb v xs c _ nd false _) H.out.ok Hs.out H.out.cnt H.out.nds (Zb a1 a0.size));have a4:=Qa ((cZ.rd hL.below hL.kp).trans (cZ.new a0 a1));clear hL a0 a1 c0 a3;obtain⟨z,hz⟩:∃z:Int,((xs.length - (ys.length+1):Nat):Int)=z:=⟨_,rfl⟩;rw[show mN (xs.length - (ys.length+1)) (.mark x) =.iface 301 (.agg #[.int .i64 (xs.length - (ys.length+1):Nat),.int .u8 x.toNat]) from rfl];rw[hz] at a2 a4 ⊢;clear hz;go_wp2_with fail;(with_reducible refine a2.out.mono ?_);rintro e w2 ⟨nd',h1,rfl,h2,h3⟩;have R:=Qa (And.intro h1 (And.intro h2 h3));clear h1 h2 h3;go_wp2_with fail;go_end0;exact⟨nd',R.out.1,rfl,a4.out.trans R.out.2.1,R.out.2.2⟩
theorem Aw {k:Nat}(hw:want=2\/want=3)(h:jm w0 rb lb xb v xs ⟨f::fs,want,none⟩ k nd w aU aE)(ho:f.obj=true)(hn:f.name=none){y:UInt8}(hd:(xs.drop k).dropWhile cV=y::ys){s:ByteArray}(hx:dC (y::ys)=some (.str s,n))(a5:s∉f.mems.map Prod.fst) :
  Calls Tryz.prog 136 #[.pointer (some ⟨rb,0,none⟩)] w fun e w'=>Ii w0.heap.size rb lb xb v xs ⟨{f with name:=some s}::fs,4,none⟩ (xs.length - (ys.length+1)+n) nd w e w':=by
 obtain⟨by_,dp,ex,ov,nv,maps,hA⟩:=h.ps.1;have c0:=aa hA.row (j:=0) (u:=.pointer (some ⟨lb,0,none⟩)) rfl;have a9:=Qa (h.next hd hx);have H:=Qa h;have hsz:kf s:=vT (by have h1:=iD (xs.drop k);rw[hd,List.length_drop] at h1;have:=h.len;omega) hx;have hcn:=h.cnt;have b1:=nh f fs;have b2:=Qa hsz;have b3:=Qa a5;have q1:=xF;have q2:=oP;have q3:=mF;have a4:=Qa (show fs.length<=1000000000/\f.mems.length<=1000000000 by simp only at hcn;omega);clear h hd hx hA hsz a5 hcn b1;rcases hw with rfl|rfl
 all_goals
  go_enter Tryz.func136,Tryz.ntmps136;go_wp2_with fail;(with_reducible refine a9.out.mono ?_);rintro e w1 ⟨rfl,hL⟩;have a0:=ac w1 (.cells #[.int .i64 (xs.length - (ys.length+1):Nat),.string s] 304);have a1:=Zb H.out.below.size hL.below.size;have a6:=hL.ps.1.below a0;obtain⟨bs,a2⟩:=hL.ps.2;have a3:=Qa (D3 (p:=(xs.length - (ys.length+1):Nat)) a6 (a2.below a0) ho hn b3.out b2.out.2 a4.out.1 a4.out.2 (Zb a1 a0.size));have b0:=Qa ((cZ.rd hL.below hL.kp).trans (cZ.new a0 a1));obtain⟨by9,dp9,ex9,ov9,nv9,maps9,a7⟩:=a6;have c14:=aa a7.row (j:=14) rfl;simp only[dK] at c14;clear hL a0 a1 c0 a9 a7 a2;obtain⟨z,hz⟩:∃z:Int,((xs.length - (ys.length+1):Nat):Int)=z:=⟨_,rfl⟩;rw[show mN (xs.length - (ys.length+1)) (.str s) =.iface 304 (.agg #[.int .i64 (xs.length - (ys.length+1):Nat),.string s]) from rfl];rw[hz] at a3 b0 c14 ⊢;clear hz;go_wp2_with fail;(with_reducible refine a3.out.mono ?_);rintro e w2 ⟨rfl,h2,h3⟩;have R:=Qa (And.intro h2 h3);clear h2 h3;go_wp2_with fail;(try simp only[Exit.inBlock,Exit.then]);refine Zg (results_none rfl ..) rfl ?_;exact⟨nd,Nat.le_succ _,rfl,b0.out.trans R.out.1,R.out.2⟩
theorem AB {k:Nat}(hw:want=0\/want=1)(h:jm w0 rb lb xb v xs ⟨frs,want,none⟩ k nd w aU aE){y:UInt8}(hd:(xs.drop k).dropWhile cV=y::ys){s:ByteArray}(hx:dC (y::ys)=some (.str s,n)) :
  Calls Tryz.prog 136 #[.pointer (some ⟨rb,0,none⟩)] w fun e w'=>Ii w0.heap.size rb lb xb v xs (cW frs (eW s)) (xs.length - (ys.length+1)+n) nd w e w':=by
 obtain⟨by_,dp,ex,ov,nv,maps,hA⟩:=h.ps.1;have c0:=aa hA.row (j:=0) (u:=.pointer (some ⟨lb,0,none⟩)) rfl;have a6:=Qa (h.next hd hx);have H:=Qa h;have hcn:=h.cnt;have b2:=ll frs;have a9:kN frs:=mZ (N:=kf) hcn (dt h.ok.want hw).2;have b1:=Qa a9;have q1:=xF;have q2:=oP;have q3:=mF;have b0:=Qa (show frs.length<=1000000000 by simp only at hcn;omega);clear h hd hx hA hcn b2 a9;rcases hw with rfl|rfl
 all_goals
  go_enter Tryz.func136,Tryz.ntmps136;go_wp2_with fail;(with_reducible refine a6.out.mono ?_);rintro e w1 ⟨rfl,hL⟩;have a0:=ac w1 (.cells #[.int .i64 (xs.length - (ys.length+1):Nat),.string s] 304);have a2:=Zb H.out.below.size hL.below.size;have a4:=hL.ps.1.below a0;obtain⟨bs,a3⟩:=hL.ps.2;have a1:=Qa (uS (k0:=xs.length - (ys.length+1)) (t:=.str s) (j:=eW s) (.inr ⟨s,rfl,rfl⟩) (by simp) a4 (a3.below a0) b1.out b0.out H.out.nds (Zb a2 a0.size));rw[show mN (xs.length - (ys.length+1)) (.str s) =.iface 304 (.agg #[.int .i64 (xs.length - (ys.length+1):Nat),.string s]) from rfl] at a1;have a7:=Qa ((cZ.rd hL.below hL.kp).trans (cZ.new a0 a2));obtain⟨by9,dp9,ex9,ov9,nv9,maps9,a5⟩:=a4;have c14:=aa a5.row (j:=14) rfl;simp only[dK] at c14;clear hL a0 a2 c0 a6 a5 a3;obtain⟨z,hz⟩:∃z:Int,((xs.length - (ys.length+1):Nat):Int)=z:=⟨_,rfl⟩;rw[show mN (xs.length - (ys.length+1)) (.str s) =.iface 304 (.agg #[.int .i64 (xs.length - (ys.length+1):Nat),.string s]) from rfl];rw[hz] at a1 a7 c14 ⊢;clear hz;go_wp2_with fail;(with_reducible refine a1.out.mono ?_);rintro e w2 ⟨rfl,h2,h3⟩;have R:=Qa (And.intro h2 h3);clear h2 h3;go_wp2_with fail;go_end0;exact⟨nd+1,Za _,rfl,a7.out.trans R.out.1,R.out.2⟩
theorem BD {k:Nat}(hw:want=0\/want=1)(h:jm w0 rb lb xb v xs ⟨frs,want,none⟩ k nd w aU aE){y:UInt8}(hd:(xs.drop k).dropWhile cV=y::ys)(hx:dC (y::ys)=some (.leaf j,n)) :
  Calls Tryz.prog 136 #[.pointer (some ⟨rb,0,none⟩)] w fun e w'=>Ii w0.heap.size rb lb xb v xs (cW frs j) (xs.length - (ys.length+1)+n) nd w e w':=by
 obtain⟨by_,dp,ex,ov,nv,maps,hA⟩:=h.ps.1;have c0:=aa hA.row (j:=0) (u:=.pointer (some ⟨lb,0,none⟩)) rfl;have a5:=Qa (h.next hd hx);have H:=Qa h;have hcn:=h.cnt;have b0:=ll frs;have a6:kN frs:=mZ (N:=kf) hcn (dt h.ok.want hw).2;have a9:=Qa a6;have a0:=z8 hx;have b3:=Qa a0;have a7:=Qa (show frs.length<=1000000000 by simp only at hcn;omega);have Hw:=Qa hw;obtain⟨tt,tx,a4,b5,b6,b4⟩:∃tt tx,mN (xs.length - (ys.length+1)) (.leaf j) =.iface tt tx/\(∀W,(Instr.typeAssert (.iface tt tx) 294 299 true).run Tryz.prog W =.ok (.tuple #[.agg #[.int .i64 0],.bool false]) W)/\
   (∀W,(Instr.typeAssert (.iface tt tx) 294 301 true).run Tryz.prog W =.ok (.tuple #[.agg #[.int .i64 0,.int .u8 0],.bool false]) W)/\(∀W,(Instr.typeAssert (.iface tt tx) 294 304 true).run Tryz.prog W =.ok (.tuple #[.agg #[.int .i64 0,.string ⟨#[]⟩],.bool false]) W):=by
  cases a0 with
  |null=>exact⟨_,_,rfl,l8 _,kY _,gG _⟩
  |bool b=>exact⟨_,_,rfl,l8 _,kY _,gG _⟩
  |num d hd=>exact⟨_,_,rfl,xB _,wt _,wS _⟩
 have b1:=Qa a4;clear h hd hx hA hcn b0 a6 a0 hw a4;go_enter Tryz.func136,Tryz.ntmps136;go_wp2_with fail;(with_reducible refine a5.out.mono ?_);rintro e w1 ⟨rfl,hL⟩;have a3:=Zb H.out.below.size hL.below.size;obtain⟨bs,a1⟩:=hL.ps.2;have a2:=Qa (uS (k0:=xs.length - (ys.length+1)) (t:=.leaf j) (j:=j) (.inl ⟨rfl,b3.out⟩) Hw.out hL.ps.1 a1 a9.out a7.out H.out.nds a3);have b2:=Qa (cZ.rd hL.below hL.kp);rw[b1.out] at a2 ⊢;clear hL a3 c0 a5 a1;go_wp2_with fail;(with_reducible refine a2.out.mono ?_);rintro e w2 ⟨rfl,h2,h3⟩;have R:=Qa (And.intro h2 h3);clear h2 h3;go_wp2_with fail;go_end0;exact⟨nd+1,Za _,rfl,b2.out.trans R.out.1,R.out.2⟩
theorem Cc {k:Nat}{c c':dH}(h:jm w0 rb lb xb v xs c k nd w aU aE){y:UInt8}(hd:(xs.drop k).dropWhile cV=y::ys){t:sX}(hx:dC (y::ys)=some (t,n))(hs:dV c t=some c') :
  Calls Tryz.prog 136 #[.pointer (some ⟨rb,0,none⟩)] w fun e w'=>Ii w0.heap.size rb lb xb v xs c' (xs.length - (ys.length+1)+n) nd w e w':=by
 cases t with
 |mark x=>exact Bv h hd hx hs
 |leaf j=>
  obtain⟨frs,want,done⟩:=c;simp only[dV] at hs
  split at hs
  ·rename_i hw
   obtain rfl:=Zh hs;have h0:=(dt h.ok.want hw).1;simp only at h0;subst h0;exact BD hw h hd hx
  ·cases hs
 |str s=>
  obtain⟨frs,want,done⟩:=c;simp only[dV] at hs
  split at hs
  ·rename_i hw
   have h4:done=none/\∃f fs,frs=f::fs/\f.obj=true/\f.name=none:=by
    have h3:=h.ok.want;rcases hw with rfl|rfl <;> exact h3
   obtain⟨rfl,f,fs,rfl,h5,h6⟩:=h4
   try simp only at hs
   split at hs
   ·cases hs
   ·rename_i hn
    obtain rfl:=Zh hs;refine Aw hw h h5 h6 hd hx fun hm=>hn ?_
    obtain⟨m,a0,e⟩:=List.mem_map.1 hm;exact List.any_eq_true.2 ⟨m,a0,by simp[e]⟩
  ·split at hs
   ·rename_i hw
    obtain rfl:=Zh hs;have h0:=(dt h.ok.want hw).1;simp only at h0;subst h0;exact AB hw h hd hx
   ·cases hs
def yQ:Array Value:= #[.int .i64 1073741824,.int .i64 1073741824,.int .i64 1073741824,.int .i64 1073741824,.int .i64 1073741824,.int .i64 4611686018427387903]
theorem BE (p q:Value)(w:World):CallsD Tryz.prog 134 #[p,q] .returning w fun e u' w'=>e =.returned (.tuple #[])/\u' =.returning/\w'=w:=by
 refine callsD_of_wpS Tryz.func134 rfl fun c₀ cs hu=>?_
 apply wpS_seq
 apply wpS_region
 simp[wpOpsS,go_sem,recoverD,hu,Tryz.ntmps134,Exit.thenS];apply wpS_seq;apply wpS_region;simp[wpOpsS,go_sem,Exit.thenS];refine wpS_cond (t:=false) (by simp[Act.eval,Array.replicate]) ?_;simp only[Bool.false_eq_true,if_false];refine wpS_of_wp (wp_skip ?_)
 cases c₀
 simp_all [bodyPostS,results,Tryz.results134]
theorem Eg {wr:World}{s1 s2:Nat}(hne:s1≠s2)(h1:wr.heap[s1]?=some (.cells #[.int .i64 0,.int .i64 0,.int .i64 0,.int .i64 0] 117 (0,0)))(h2:wr.heap[s2]?=some (.cells #[.nilIface] 49 (0,0)))(a b c d:Value)
  (hW:((((wr.setCell ⟨s1,0,none⟩ a).setCell ⟨s1,1,none⟩ b).setCell ⟨s1,2,none⟩ c).setCell ⟨s1,3,none⟩ d).setCell ⟨s2,0,none⟩ .nilIface=W) :
  W.heap[s1]?=some (.cells #[a,b,c,d] 117 (0,0))/\W.heap[s2]?=some (.cells #[.nilIface] 49 (0,0))/\br (fun k=>k=s1\/k=s2) wr W:=by
 subst hW;have g1:=aw (aw (aw (aw h1 0 a) 1 b) 2 c) 3 d;have g2:=av _ s2 s1 3 d _ _ hne.symm (av _ s2 s1 2 c _ _ hne.symm (av _ s2 s1 1 b _ _ hne.symm (av wr s2 s1 0 a _ _ hne.symm h2)));refine⟨av _ s1 s2 0 .nilIface _ _ hne g1,aw g2 0 .nilIface,?_⟩;exact(((((br.set s1 0 a).mono fun _ h=>.inl h).trans (br.set s1 1 b) fun i h=>.inl (.inl h)).trans (br.set s1 2 c) fun i h=>.inl (.inl h)).trans (br.set s1 3 d) fun i h=>.inl (.inl h)).trans (br.set s2 0 _) fun i h=>.inl (.inr h)
def Ck (w0:World)(rb lb xb:Nat)(v:Value)(xs:List UInt8)(j:JV)(m:Nat)(wr:World):Prop:=
 (∃ (f:Nat) (c:dH) (k nd:Nat),m=xs.length - k+1/\CC f c (xs.drop k)=some j/\PS w0.heap.size rb lb xb v xs c k nd false wr/\c.ok kf/\eo c.frs<=k/\nd<=k/\k<=xs.length/\Below w0.heap.size w0 wr)\/
 (m=0/\∃nd bs,kc w0.heap.size wr rb lb xb v xs [] 7 xs.length nd true/\fC w0.heap.size wr xb [] (some j) bs/\Below w0.heap.size w0 wr)
def IA (w0:World)(xb:Nat)(j:JV)(e:Ending)(w':World):Prop:= ∃a b c d:Int,e =.returned (.tuple #[.agg #[.int .i64 a,.int .i64 b,.int .i64 c,.int .i64 d],.nilIface])/\Below w0.heap.size w0 w'/\∃bs,fC w0.heap.size w' xb [] (some j) bs
theorem AV (hE:qJ w0 aU aE)(hM:kR w0)(f0:Below w0.heap.size w0 w)(hb:Bs w v xs)(h0:0<xs.length)(hl:xs.length<=1000000000)(g5:fC w0.heap.size w xb [] none [])(hp:fp xs=some j) :
  Calls Tryz.prog 108 #[v,eZ,.func (.func 109) #[.pointer (some ⟨xb,0,none⟩)] #[]] w (IA w0 xb j):=by
 have i3:∀ (fn:Fn) (first cap:Array Value) (w:World),(Instr.makeFunc fn first cap).run Tryz.prog w =.ok (.func fn first cap) w:=fun _ _ _ _=>rfl
 obtain⟨hm,A,cap,rfl,h8,b5⟩:=id hb;have HE:=Qa hE;have HM:=Qa hM;have b0:=Qa f0;have Hb:=Qa hb;have H0:=Qa h0;have Hl:=Qa hl;have g9:=Qa g5;have Hp:=Qa hp;have f6:=Qa (fun w=>xa w);have f9:=Qa (fun w=>tf (m:=1) (x:=(xs.length:Int)) (by omega) (by omega) w);unfold eZ at *;have hlen:(xs.length:Int)<=1000000000:=by omega
 clear hE hM f0 hb h0 hl g5 hp b5;have f3:Below w.heap.size w (((w.alloc (.cells #[.int .i64 1073741824,.int .i64 1073741824,.int .i64 1073741824,.int .i64 1073741824,.int .i64 1073741824,.int .i64 4611686018427387903] 121)).alloc (.cells #[.int .i64 0,.int .i64 0,.int .i64 0,.int .i64 0] 117)).alloc (.cells #[.nilIface] 49)):=bE (bE (ac _ _) (ac _ _)) (ac _ _);have g0:(((w.alloc (.cells #[.int .i64 1073741824,.int .i64 1073741824,.int .i64 1073741824,.int .i64 1073741824,.int .i64 1073741824,.int .i64 4611686018427387903] 121)).alloc (.cells #[.int .i64 0,.int .i64 0,.int .i64 0,.int .i64 0] 117)).alloc (.cells #[.nilIface] 49)).heap[w.heap.size]?=some (.cells #[.int .i64 1073741824,.int .i64 1073741824,.int .i64 1073741824,.int .i64 1073741824,.int .i64 1073741824,.int .i64 4611686018427387903] 121 (0,0)):=(Below.heap_alloc _ _ _ (by simp only[World.size_alloc];omega)).trans ((Below.heap_alloc _ _ _ (by simp)).trans (Ze w _));have g1:(((w.alloc (.cells #[.int .i64 1073741824,.int .i64 1073741824,.int .i64 1073741824,.int .i64 1073741824,.int .i64 1073741824,.int .i64 4611686018427387903] 121)).alloc (.cells #[.int .i64 0,.int .i64 0,.int .i64 0,.int .i64 0] 117)).alloc (.cells #[.nilIface] 49)).heap[w.heap.size+1]?=some (.cells #[.int .i64 0,.int .i64 0,.int .i64 0,.int .i64 0] 117 (0,0)):=by
  have:=Ze (w.alloc (.cells #[.int .i64 1073741824,.int .i64 1073741824,.int .i64 1073741824,.int .i64 1073741824,.int .i64 1073741824,.int .i64 4611686018427387903] 121)) (.cells #[.int .i64 0,.int .i64 0,.int .i64 0,.int .i64 0] 117);rw[World.size_alloc] at this;exact(Below.heap_alloc _ _ _ (by simp)).trans this
 have g2:(((w.alloc (.cells #[.int .i64 1073741824,.int .i64 1073741824,.int .i64 1073741824,.int .i64 1073741824,.int .i64 1073741824,.int .i64 4611686018427387903] 121)).alloc (.cells #[.int .i64 0,.int .i64 0,.int .i64 0,.int .i64 0] 117)).alloc (.cells #[.nilIface] 49)).heap[w.heap.size+1+1]?=some (.cells #[.nilIface] 49 (0,0)):=by
  have:=Ze ((w.alloc (.cells #[.int .i64 1073741824,.int .i64 1073741824,.int .i64 1073741824,.int .i64 1073741824,.int .i64 1073741824,.int .i64 4611686018427387903] 121)).alloc (.cells #[.int .i64 0,.int .i64 0,.int .i64 0,.int .i64 0] 117)) (.cells #[.nilIface] 49)
  rwa[World.size_alloc,World.size_alloc] at this
 have i0:=Qa f3;have G0:=Qa g0;have G1:=Qa g1;have G2:=Qa g2;clear f3 g0 g1 g2;go_enter_defers Tryz.func108,Tryz.ntmps108;go_wp2_with fail;generalize ((w.alloc (.cells #[.int .i64 1073741824,.int .i64 1073741824,.int .i64 1073741824,.int .i64 1073741824,.int .i64 1073741824,.int .i64 4611686018427387903] 121)).alloc (.cells #[.int .i64 0,.int .i64 0,.int .i64 0,.int .i64 0] 117)).alloc (.cells #[.nilIface] 49)=w1 at *;(with_reducible refine(f6.out _).mono ?_);rintro e w2 ⟨rfl,e4⟩;have l0:=aj G0.out e4;have c0:=aa l0 (j:=0) (u:=.int .i64 1073741824) rfl;have c1:=aa l0 (j:=1) (u:=.int .i64 1073741824) rfl;have c2:=aa l0 (j:=2) (u:=.int .i64 1073741824) rfl;have c3:=aa l0 (j:=3) (u:=.int .i64 1073741824) rfl;have c4:=aa l0 (j:=4) (u:=.int .i64 1073741824) rfl;have c5:=aa l0 (j:=5) (u:=.int .i64 4611686018427387903) rfl;have e0:=Qa e4;clear l0 e4;go_wp2_with fail;(with_reducible refine(f9.out _).mono ?_);rintro e w3 ⟨rfl,b3⟩;have h5:=Qa (bE (bE i0.out e0.out) b3);have L0:=Qa (aj (aj G0.out e0.out) b3);have L1:=Qa (aj (aj G1.out e0.out) b3);have L2:=Qa (aj (aj G2.out e0.out) b3);clear c0 c1 c2 c3 c4 c5 b3;go_wp2_with fail;obtain⟨wr,d6⟩:∃wr,w3.drew=wr:=⟨_,rfl⟩;have d5:Below w3.heap.size w3 wr:=by rw[<-d6];exact(Zd _ _).drew
 have a9:=Qa (bE h5.out d5);have g4:=aj L0.out d5;have b8:∀ (w':World),w'.heap[w.heap.size]?=some (.cells #[.int .i64 1073741824,.int .i64 1073741824,.int .i64 1073741824,.int .i64 1073741824,.int .i64 1073741824,.int .i64 4611686018427387903] 121 (0,0))->w'.cell? ⟨w.heap.size,0,none⟩=some (.int .i64 1073741824)/\w'.cell? ⟨w.heap.size,1,none⟩=some (.int .i64 1073741824)/\w'.cell? ⟨w.heap.size,2,none⟩=some (.int .i64 1073741824)/\w'.cell? ⟨w.heap.size,3,none⟩=some (.int .i64 1073741824)/\w'.cell? ⟨w.heap.size,4,none⟩=some (.int .i64 1073741824)/\w'.cell? ⟨w.heap.size,5,none⟩=some (.int .i64 4611686018427387903):=fun _ h=>
  ⟨aa h (j:=0) rfl,aa h (j:=1) rfl,aa h (j:=2) rfl,aa h (j:=3) rfl,aa h (j:=4) rfl,aa h (j:=5) rfl⟩
 have a3:=Qa b8;have e1:=Qa g4;have b9:=Qa (yp (w:=wr) (Hb.out.below a9.out) H0.out (by have:=Hl.out;omega));have R1:=Qa (aj L1.out d5);have R2:=Qa (aj L2.out d5);clear d5 g4 b8;refine aR (fun w2=>w2.cell? ⟨w.heap.size,0,none⟩=some (.int .i64 1073741824)/\w2.cell? ⟨w.heap.size,1,none⟩=some (.int .i64 1073741824)/\w2.cell? ⟨w.heap.size,2,none⟩=some (.int .i64 1073741824)/\w2.cell? ⟨w.heap.size,3,none⟩=some (.int .i64 1073741824)/\w2.cell? ⟨w.heap.size,4,none⟩=some (.int .i64 1073741824)/\w2.cell? ⟨w.heap.size,5,none⟩=some (.int .i64 4611686018427387903)) ((by rw[d6];exact a3.out _ e1.out)) fun a1=>?_
 refine tH 0 a1 ?_;refine tH 2 a1 ?_;refine tH 3 a1 ?_;refine tH 4 a1 ?_;refine tH 5 a1 ?_;refine tH 6 a1 ?_
 try simp only[Act.put,jP,jQ,jR]
 refine rH 1 fun K hK=>?_
 go_simp;(try rw[d6]);(with_reducible refine b9.out.mono ?_);rintro e w5 ⟨lb,u,rfl,e7,g3,f5,b7⟩;have b1:=Qa g3;have g8:=Qa e7;have h6:=Qa f5;have e5:=Qa b7;clear g3 e7 f5 b7;go_wp2_with fail;refine hK.out _ _ (a3.out _ (aj e1.out b1.out)) (fun a1=>?_);clear hK K
 try simp only[Act.put,jP,jQ,jR]
 refine tH 7 a1 ?_
 try simp only[Act.put,jP,jQ,jR]
 refine rH 8 fun K hK=>?_
 go_simp;refine hK.out _ _ (a3.out _ (aj (aj e1.out b1.out) (ac _ _))) (fun a1=>?_);clear hK K
 try simp only[Act.put,jP,jQ,jR]
 refine tH 9 a1 ?_
 try simp only[Act.put,jP,jQ,jR]
 refine wpAnyH_done (by kernel_rfl) (NoPanic.normal ?_) _;clear a1 d6;have d9:Below w0.heap.size w0 w5:=(b0.out.trans (a9.out.mono b0.out.size)).trans (b1.out.mono (Zb b0.out.size a9.out.size));have a0:=ac w5 (.cells (dK lb xb xs.length 0 0 0 (.slice none 0 0) (.slice none 0 0) 0 false) 230);have a6:=Ze w5 (.cells (dK lb xb xs.length 0 0 0 (.slice none 0 0) (.slice none 0 0) 0 false) 230);have f1:iP w0.heap.size (w5.alloc (.cells (dK lb xb xs.length 0 0 0 (.slice none 0 0) (.slice none 0 0) 0 false) 230)) w5.heap.size lb xb u xs [] 0 0 0 false xs.length 0 0 (.slice none 0 0) (.slice none 0 0) []:=
  ⟨a6,d9.size,g8.out.below a0,Zb (Zb b0.out.size a9.out.size) h6.out,aq (bV e5.out (Zb b0.out.size a9.out.size)) a0 (Za _),⟨rfl,.inl ⟨rfl,rfl⟩⟩,⟨rfl,.inl ⟨rfl,rfl⟩⟩,bB.nil _,List.nodup_nil,Zj _⟩
 have b2:=(g9.out.below (bE a9.out b1.out)).below a0;have Hrel:=Qa (show Ck w0 w5.heap.size lb xb u xs j (xs.length+1) (w5.alloc (.cells (dK lb xb xs.length 0 0 0 (.slice none 0 0) (.slice none 0 0) 0 false) 230)) from
  .inl ⟨xs.length+1,⟨[],0,none⟩,0,0,rfl,Hp.out,⟨f1.s, [],b2⟩,dH.ok.start kf,Za _,Za _,Zj _,d9.trans (a0.mono d9.size)⟩)
 have Q1:=Qa (aj (aj R1.out b1.out) a0);have Q2:=Qa (aj (aj R2.out b1.out) a0);unfold dK at Hrel Q1 Q2;clear f1 b2 a6 a0 d9 b9 e1 a3 R1 R2 L0 L1 L2 G0 G1 G2 f6 f9;go_wp2_with fail
 go_loopg [] (xs.length+1) (fun m wr=>Ck w0 w5.heap.size lb xb u xs j m wr/\wr.heap[w.heap.size+1]?=some (.cells #[.int .i64 0,.int .i64 0,.int .i64 0,.int .i64 0] 117 (0,0))/\wr.heap[w.heap.size+1+1]?=some (.cells #[.nilIface] 49 (0,0)))
 case atStart=>exact⟨Hrel.out,Q1.out,Q2.out⟩
 case round=>
  obtain⟨hrel,q1,q2⟩:=hrel;have HQ1:=Qa q1;have HQ2:=Qa q2;clear Hrel Q1 Q2 q1 q2;rcases hrel with ⟨f,c,k,nd,hm,hrun,a7,c6,hcn,f4,hk,a4⟩|⟨h7,nd,bs,hR,b6,a4⟩
  ·obtain⟨by9,dp9,ex9,ov9,nv9,maps9,a2⟩:=id a7.1;have c15:=aa a2.row (j:=15) (u:=.bool false) rfl;have i2:=Qa a7;have Hm:=Qa hm;have Hbl:=Qa a4
   cases f with
   |zero=>cases hrun
   |succ f=>
    unfold CC at hrun
    cases hdw:(xs.drop k).dropWhile cV with
    |nil=>
     rw[hdw] at hrun;simp only at hrun
     split at hrun
     case isFalse=>cases hrun
     rename_i hw7
     obtain⟨frs,want,done⟩:=c;simp only at hw7 hrun;subst hw7 hrun;have h9:frs = []:=c6.want.1;subst h9;obtain⟨bs9,e8⟩:=a7.2;have e3:=Qa (DD (HE.out.below a4) a7.1 e8 Hl.out a4.size hdw);clear a7 c6 hcn f4 hk a4 hm a2 e8 hdw;go_wp2_with fail;(with_reducible refine e3.out.mono ?_);rintro e w7 ⟨rfl,h1,h2,h3⟩;have R:=Qa (And.intro h1 (And.intro h2 h3));clear h1 h2 h3 c15;go_wp2_with fail;go_roundg 0
     case measure=>have:=Hm.out;omega
     case rel=>exact⟨.inr ⟨rfl,nd,bs9,R.out.2.1,R.out.2.2,Hbl.out.trans R.out.1.b⟩,R.out.1.k.2 _ _ _ _ HQ1.out (by simp only[TA,TB,TV,mm];decide),R.out.1.k.2 _ _ _ _ HQ2.out (by simp only[TA,TB,TV,mm];decide)⟩
    |cons y ys=>
     rw[hdw] at hrun;simp only at hrun
     cases hlx:dC (y::ys) with
     |none=>rw[hlx] at hrun;cases hrun
     |some tn=>
      obtain⟨t,n⟩:=tn;rw[hlx] at hrun;simp only at hrun
      cases hsb:dV c t with
      |none=>rw[hsb] at hrun;cases hrun
      |some c'=>
       rw[hsb] at hrun;simp only at hrun;have f8:=oH hlx;have hin:(y::ys).length<=xs.length - k:=by
        have h1:=iD (xs.drop k);rw[hdw,List.length_drop] at h1;exact h1
       rw[List.length_cons] at f8 hin;have a5:xs.drop (xs.length - (ys.length+1))=y::ys:=by
        have h1:=rX (xs.drop k);rw[hdw,List.drop_drop] at h1;have h2:=congrArg List.length h1;rw[List.length_drop,List.length_cons] at h2;rw[<-h1]
        congr 1
        omega
       have e3:=Qa (Cc (⟨HE.out,HM.out,a7,c6,by have:=Hl.out;omega,by have:=Hl.out;omega,Hl.out,a4⟩:jm w0 w5.heap.size lb xb u xs c k nd wr aU aE) hdw hlx hsb);have Hrun:=Qa (show CC f c' (xs.drop (xs.length - (ys.length+1)+n))=some j by rw[<-List.drop_drop,a5];exact hrun);have Hok:=Qa (EB c6 (EK (by rw[List.length_cons];have:=Hl.out;omega) hlx) hsb);have Hcn:=Qa (show eo c'.frs<=xs.length - (ys.length+1)+n/\nd+1<=xs.length - (ys.length+1)+n/\xs.length - (ys.length+1)+n<=xs.length/\k<xs.length - (ys.length+1)+n by have:=DG hsb;omega);clear a7 c6 hcn f4 hk a4 hm a2 hdw hlx hsb hrun f8 hin a5;go_wp2_with fail;(with_reducible refine e3.out.mono ?_);rintro e w7 ⟨nd',f2,rfl,h1,h2⟩;have R:=Qa (And.intro f2 (And.intro h1 h2));clear f2 h1 h2 c15;go_wp2_with fail;go_roundg (xs.length - (xs.length - (ys.length+1)+n)+1)
       case measure=>have:=Hm.out;have:=Hcn.out;omega
       case rel=>exact⟨.inl ⟨f,c',_,nd',rfl,Hrun.out,R.out.2.2,Hok.out,Hcn.out.1,Zb R.out.1 Hcn.out.2.1,Hcn.out.2.2.1,Hbl.out.trans R.out.2.1.b⟩,R.out.2.1.k.2 _ _ _ _ HQ1.out (by simp only[TA,TB,TV,mm];decide),R.out.2.1.k.2 _ _ _ _ HQ2.out (by simp only[TA,TB,TV,mm];decide)⟩
  ·obtain⟨by9,dp9,ex9,ov9,nv9,maps9,a2⟩:=id hR;have c15:=aa a2.row (j:=15) (u:=.bool true) rfl;have c7:=aa a2.row (j:=7) (u:=.int .i64 by9) rfl;have c8:=aa a2.row (j:=8) (u:=.int .i64 dp9) rfl;have c9:=aa a2.row (j:=9) (u:=.int .i64 nd) rfl;have c10:=aa a2.row (j:=10) (u:=.int .i64 ex9) rfl;have h4:=Qa b6;have Hbl:=Qa a4;have r0:=aa HQ1.out (j:=0) rfl;have r1:=aa HQ1.out (j:=1) rfl;have r2:=aa HQ1.out (j:=2) rfl;have r3:=aa HQ1.out (j:=3) rfl;have r4:=aa HQ2.out (j:=0) rfl;have z0:=am HQ1.out 0;have z1:=am HQ1.out 1;have z2:=am HQ1.out 2;have z3:=am HQ1.out 3;have z4:=am HQ2.out 0;clear h7 hR b6 a4 a2;go_wp2_with fail;obtain⟨W,hW⟩:∃W,((((wr.setCell ⟨w.heap.size+1,0,none⟩ (.int .i64 by9)).setCell ⟨w.heap.size+1,1,none⟩ (.int .i64 dp9)).setCell ⟨w.heap.size+1,2,none⟩ (.int .i64 nd)).setCell ⟨w.heap.size+1,3,none⟩ (.int .i64 ex9)).setCell ⟨w.heap.size+1+1,0,none⟩ .nilIface=W:=⟨_,rfl⟩;rw[hW];obtain⟨g1,g2,e6⟩:=Eg (by omega) HQ1.out HQ2.out _ _ _ _ hW;have d0:=aa g1 (j:=0) (u:=.int .i64 by9) rfl;have d1:=aa g1 (j:=1) (u:=.int .i64 dp9) rfl;have d2:=aa g1 (j:=2) (u:=.int .i64 nd) rfl;have d3:=aa g1 (j:=3) (u:=.int .i64 ex9) rfl;have d4:=aa g2 (j:=0) (u:=.nilIface) rfl;have g7:Kp (fun e=>e=117\/e=49) wr W:=Kp.of_chg e6 fun g hg _=>by
    rcases hg with rfl|rfl
    ·exact⟨_,_,_,HQ1.out,.inl rfl⟩
    ·exact⟨_,_,_,HQ2.out,.inr rfl⟩
   have g6:=h4.out.kp g7 fun e he=>by rcases he with (rfl|rfl|rfl|rfl)|rfl|rfl <;> decide
   have b4:Below w0.heap.size w0 W:=Hbl.out.trans (e6.below Hbl.out.size fun i hi=>by have:=b0.out.size;rcases hi with rfl|rfl <;> omega);have e2:IA w0 xb j (.returned (.tuple #[.agg #[.int .i64 by9,.int .i64 dp9,.int .i64 nd,.int .i64 ex9],.nilIface])) W:=⟨_,_,_,_,rfl,b4,bs,g6⟩;clear hW e6 g7 g6 b4 r0 r1 r2 r3 r4 z0 z1 z2 z3 z4 c7 c8 c9 c10 c15;refine leaves_cons (f:=134) (args:= #[.pointer (some ⟨w.heap.size+1,0,none⟩),.pointer (some ⟨w.heap.size+1+1,0,none⟩)]) (by simp) (by simp[go_sem]) ?_;refine(BE _ _ _).mono ?_;rintro e u' w'' ⟨rfl,rfl,rfl⟩;simp[Leaves,settle,results,Tryz.results108,go_sem,d0,d1,d2,d3,d4];exact e2
def JP (w:World)(j:JV)(e:Ending)(w':World):Prop:= ∃ (u:Value) (a b c d:Int),e =.returned (.tuple #[u,.agg #[.int .i64 a,.int .i64 b,.int .i64 c,.int .i64 d],.nilIface])/\Below w.heap.size w w'/\VW (w.heap.size<= ·) w' u j
theorem z6 (hE:qJ w aU aE)(hM:kR w)(hb:Bs w v xs)(h0:0<xs.length)(hl:xs.length<=1000000000)(hp:fp xs=some j) :
  Calls Tryz.prog 78 #[v,eZ] w (JP w j):=by
 have e6:∀ (fn:Fn) (first cap:Array Value) (w:World),(Instr.makeFunc fn first cap).run Tryz.prog w =.ok (.func fn first cap) w:=fun _ _ _ _=>rfl
 have a7:Below w.heap.size w ((w.alloc (.cells yQ 121)).alloc (.cells #[.int .i64 0,.int .i64 0,.int .i64 0,.int .i64 0] 117)):=bE (ac _ _) (ac _ _);have g0:((w.alloc (.cells yQ 121)).alloc (.cells #[.int .i64 0,.int .i64 0,.int .i64 0,.int .i64 0] 117)).heap[w.heap.size]?=some (.cells yQ 121 (0,0)):=(Below.heap_alloc _ _ _ (by simp)).trans (Ze w _);have g1:((w.alloc (.cells yQ 121)).alloc (.cells #[.int .i64 0,.int .i64 0,.int .i64 0,.int .i64 0] 117)).heap[w.heap.size+1]?=some (.cells #[.int .i64 0,.int .i64 0,.int .i64 0,.int .i64 0] 117 (0,0)):=by
  have:=Ze (w.alloc (.cells yQ 121)) (.cells #[.int .i64 0,.int .i64 0,.int .i64 0,.int .i64 0] 117)
  rwa[World.size_alloc] at this
 have hz:((w.alloc (.cells yQ 121)).alloc (.cells #[.int .i64 0,.int .i64 0,.int .i64 0,.int .i64 0] 117)).heap.size=w.heap.size+1+1:=by simp
 unfold yQ at a7 g0 g1 hz;have H2:=Qa a7;have G0:=Qa g0;have G1:=Qa g1;have Hz:=Qa hz;have HE:=Qa (hE.below a7);have HM:=Qa (hM.below a7);have Hb:=Qa (hb.below a7);have H0:=Qa h0;have Hl:=Qa hl;have Hp:=Qa hp;have d4:=hE;unfold eZ;clear a7 g0 g1 hz hE hM hb h0 hl hp d4;go_enter Tryz.func78,Tryz.ntmps78;go_wp2_with fail;generalize ((w.alloc (.cells #[.int .i64 1073741824,.int .i64 1073741824,.int .i64 1073741824,.int .i64 1073741824,.int .i64 1073741824,.int .i64 4611686018427387903] 121)).alloc (.cells #[.int .i64 0,.int .i64 0,.int .i64 0,.int .i64 0] 117))=w1 at *;rw[<-Hz.out];have a5:=ac w1 (.cells #[.slice none 0 0,.nilIface] 192);have a4:=Ze w1 (.cells #[.slice none 0 0,.nilIface] 192);have b2:fC w1.heap.size (w1.alloc (.cells #[.slice none 0 0,.nilIface] 192)) w1.heap.size [] none []:=⟨.slice none 0 0,.nilIface, [],a4,Za _,⟨rfl,.inl ⟨rfl,rfl⟩⟩,bB.nil _,rfl,List.nodup_nil,rfl⟩;have c0:=Qa (AV HE.out HM.out a5 (Hb.out.below a5) H0.out Hl.out b2 Hp.out);unfold eZ at c0;clear a5 a4 b2;(with_reducible refine c0.out.mono ?_);rintro e w3 ⟨a,b,c,d,rfl,b3,bs,pv,dv,us,b5⟩;have b7:VW (Pb w1.heap.size bs) w3 dv j:=b5.done;obtain⟨tv,xv,e1⟩:=b7.iface;subst e1;have a0:=ac w3 (.cells #[.int .i64 a,.int .i64 b,.int .i64 c,.int .i64 d] 117);obtain⟨w4,c2⟩:∃w4,w3.alloc (.cells #[.int .i64 a,.int .i64 b,.int .i64 c,.int .i64 d] 117)=w4:=⟨_,rfl⟩;have b8:=Ze w3 (.cells #[.int .i64 a,.int .i64 b,.int .i64 c,.int .i64 d] 117);rw[c2] at a0 b8;have e2:=Qa (b7.later a0);have d6:=Qa (aj b5.row a0);have d9:=Qa b8;have c4:w3.heap[w.heap.size+1]?=some (.cells #[.int .i64 0,.int .i64 0,.int .i64 0,.int .i64 0] 117 (0,0)):=(b3.block _ (ae G1.out)).trans G1.out;have c8:=Qa (aj c4 a0);have c3:=Qa (show Below w1.heap.size w1 w4 from b3.trans (a0.mono b3.size));have c9:=Qa c2;have hlt:w1.heap.size<w3.heap.size:=ae b5.row;have e3:=Qa hlt;clear b3 b5 b7 a0 b8 c4 c2 hlt c0;go_wp2_with fail
 try rw[c9.out]
 obtain⟨wr,c1⟩:∃wr,w4.drew=wr:=⟨_,rfl⟩;have a6:Below w4.heap.size w4 wr:=by rw[<-c1];exact(Zd _ _).drew
 have d5:=Qa (e2.out.later a6);have hX:=aj d6.out a6;have hN:=aj d9.out a6;have hG:=aj c8.out a6;have e0:=Qa hX;have b4:=Qa hN;have c6:=Qa hG;have c5:=Qa (c3.out.trans (a6.mono c3.out.size));have z0:=am hG 0;have z1:=am hG 1;have z2:=am hG 2;have z3:=am hG 3;have y0:=aa hG (j:=0) (u:=.int .i64 0) rfl;have y1:=aa hG (j:=1) (u:=.int .i64 0) rfl;have y2:=aa hG (j:=2) (u:=.int .i64 0) rfl;have y3:=aa hG (j:=3) (u:=.int .i64 0) rfl;have a9:w.heap.size+1≠w1.heap.size:=by have:=Hz.out;omega
 have b0:w.heap.size+1≠w3.heap.size:=by have:=Hz.out;have:=e3.out;omega
 have b9:=Qa a9;have a2:=Qa b0;clear a6 hX hN hG a9 b0;have hS:wr.cell? ⟨w1.heap.size,1,none⟩=some (.iface tv xv)/\wr.cell? ⟨w3.heap.size,0,none⟩=some (.int .i64 a)/\wr.cell? ⟨w3.heap.size,1,none⟩=some (.int .i64 b)/\wr.cell? ⟨w3.heap.size,2,none⟩=some (.int .i64 c)/\wr.cell? ⟨w3.heap.size,3,none⟩=some (.int .i64 d):=
  ⟨aa e0.out (j:=1) rfl,aa b4.out (j:=0) rfl,aa b4.out (j:=1) rfl,aa b4.out (j:=2) rfl,aa b4.out (j:=3) rfl⟩
 have HS:=Qa hS;clear hS;have b1:∀ (W:World) (i:Nat) (x:Value),(W.cell? ⟨w1.heap.size,1,none⟩=some (.iface tv xv)/\W.cell? ⟨w3.heap.size,0,none⟩=some (.int .i64 a)/\W.cell? ⟨w3.heap.size,1,none⟩=some (.int .i64 b)/\W.cell? ⟨w3.heap.size,2,none⟩=some (.int .i64 c)/\W.cell? ⟨w3.heap.size,3,none⟩=some (.int .i64 d))->
   ((W.setCell ⟨w.heap.size+1,i,none⟩ x).cell? ⟨w1.heap.size,1,none⟩=some (.iface tv xv)/\(W.setCell ⟨w.heap.size+1,i,none⟩ x).cell? ⟨w3.heap.size,0,none⟩=some (.int .i64 a)/\(W.setCell ⟨w.heap.size+1,i,none⟩ x).cell? ⟨w3.heap.size,1,none⟩=some (.int .i64 b)/\(W.setCell ⟨w.heap.size+1,i,none⟩ x).cell? ⟨w3.heap.size,2,none⟩=some (.int .i64 c)/\(W.setCell ⟨w.heap.size+1,i,none⟩ x).cell? ⟨w3.heap.size,3,none⟩=some (.int .i64 d)):=fun W i x ⟨h1,h2,h3,h4,h5⟩=>
  ⟨(World.cell?_setCell_far _ _ _ _ b9.out).trans h1,(World.cell?_setCell_far _ _ _ _ a2.out).trans h2,(World.cell?_setCell_far _ _ _ _ a2.out).trans h3,(World.cell?_setCell_far _ _ _ _ a2.out).trans h4,(World.cell?_setCell_far _ _ _ _ a2.out).trans h5⟩
 have a1:=Qa b1;clear b1;refine aR (fun w2=>w2.cell? ⟨w1.heap.size,1,none⟩=some (.iface tv xv)/\w2.cell? ⟨w3.heap.size,0,none⟩=some (.int .i64 a)/\w2.cell? ⟨w3.heap.size,1,none⟩=some (.int .i64 b)/\w2.cell? ⟨w3.heap.size,2,none⟩=some (.int .i64 c)/\w2.cell? ⟨w3.heap.size,3,none⟩=some (.int .i64 d)) ((by rw[c1];exact HS.out)) fun a3=>?_
 refine tH 0 a3 ?_;refine tH 1 a3 ?_;refine tH 2 a3 ?_;refine tH 3 a3 ?_
 try simp only[Act.put,jP,jQ,jR]
 refine rH 4 fun K hK=>?_
 (try rw[c1] at a3 ⊢);go_simp;refine hK.out _ _ (a1.out _ _ _ (a1.out _ _ _ (a1.out _ _ _ (a1.out _ _ _ HS.out)))) (fun a3=>?_);clear hK K
 try simp only[Act.put,jP,jQ,jR]
 refine tH 5 a3 ?_
 try simp only[Act.put,jP,jQ,jR]
 refine wpAnyH_done (by kernel_rfl) (NoPanic.normal ?_) _;clear y0 y1 y2 y3 z0 z1 z2 z3
 try clear a3
 go_wp2_with fail;obtain⟨W,hW⟩:∃W,(((wr.setCell ⟨w.heap.size+1,0,none⟩ (.int .i64 a)).setCell ⟨w.heap.size+1,1,none⟩ (.int .i64 b)).setCell ⟨w.heap.size+1,2,none⟩ (.int .i64 c)).setCell ⟨w.heap.size+1,3,none⟩ (.int .i64 d)=W:=⟨_,rfl⟩;rw[hW];have g:=aw (aw (aw (aw c6.out 0 (.int .i64 a)) 1 (.int .i64 b)) 2 (.int .i64 c)) 3 (.int .i64 d);rw[hW] at g;have c7:br (fun k=>k=w.heap.size+1) wr W:=by
  rw[<-hW];exact((((br.set _ 0 _).trans (br.set _ 1 _) fun i h=>.inl h).trans (br.set _ 2 _) fun i h=>.inl h).trans (br.set _ 3 _) fun i h=>.inl h)
 have d0:=aa g (j:=0) (u:=.int .i64 a) rfl;have d1:=aa g (j:=1) (u:=.int .i64 b) rfl;have d2:=aa g (j:=2) (u:=.int .i64 c) rfl;have d3:=aa g (j:=3) (u:=.int .i64 d) rfl;have e4:Kp (fun e=>e=117) wr W:=Kp.of_chg c7 fun g hg _=>by subst hg;exact⟨_,_,_,c6.out,rfl⟩
 have e5:=(d5.out.keeps e4.keeps (fun e he=>by rcases he with rfl|rfl|rfl|rfl <;> decide)).imp (Q:=(w.heap.size<= ·)) (fun g hg _=>Zb H2.out.size hg.1);have b6:Below w.heap.size w W:=(H2.out.trans (c5.out.mono H2.out.size)).trans (c7.below (by have:=H2.out.size;have:=c5.out.size;omega) fun i hi=>by rw[hi];omega);refine Zg (v:=.tuple #[.iface tv xv,.agg #[.int .i64 a,.int .i64 b,.int .i64 c,.int .i64 d],.nilIface]) ?_ rfl ⟨_,_,_,_,_,rfl,b6,e5⟩;simp[results,Tryz.results78,go_sem,d0,d1,d2,d3]
theorem yB (w:World):Calls Tryz.prog 79 #[] w fun e w'=>e =.returned eZ/\Below w.heap.size w w':=by
 unfold eZ;go_enter Tryz.func79,Tryz.ntmps79;go_wp2_with fail;have hn:=Ze w (.cells #[.int .i64 1073741824,.int .i64 1073741824,.int .i64 1073741824,.int .i64 1073741824,.int .i64 1073741824,.int .i64 4611686018427387903] 121);have n0:=aa hn (j:=0) rfl;have n1:=aa hn (j:=1) rfl;have n2:=aa hn (j:=2) rfl;have n3:=aa hn (j:=3) rfl;have n4:=aa hn (j:=4) rfl;have n5:=aa hn (j:=5) rfl;have Hb:=ac w (.cells #[.int .i64 1073741824,.int .i64 1073741824,.int .i64 1073741824,.int .i64 1073741824,.int .i64 1073741824,.int .i64 4611686018427387903] 121);refine Zg (v:=.agg #[.int .i64 1073741824,.int .i64 1073741824,.int .i64 1073741824,.int .i64 1073741824,.int .i64 1073741824,.int .i64 4611686018427387903]) ?_ rfl ⟨rfl,Hb⟩;simp[results,Tryz.results79,go_sem,n0,n1,n2,n3,n4,n5]
def IQ (w:World)(j:JV)(e:Ending)(w':World):Prop:= ∃u,e =.returned (.tuple #[u,.nilIface])/\Below w.heap.size w w'/\VW (w.heap.size<= ·) w' u j
theorem kz (hE:qJ w aU aE)(hM:kR w)(hb:Bs w v xs)(h0:0<xs.length)(hl:xs.length<=1000000000)(hp:fp xs=some j) :
  Calls Tryz.prog 41 #[v] w (IQ w j):=by
 have Hf:=Qa (yB w);have H:=Qa (fun (w1:World) (h:Below w.heap.size w w1)=>z6 (hE.below h) (hM.below h) (hb.below h) h0 hl hp);clear hE hM hb h0 hl hp;go_enter Tryz.func41,Tryz.ntmps41;go_wp2_with fail;(with_reducible refine Hf.out.mono ?_);rintro e w1 ⟨rfl,a0⟩;have a3:=Qa a0;have Hp:=Qa (H.out w1 a0);clear a0;go_wp2_with fail;(with_reducible refine Hp.out.mono ?_);rintro e w2 ⟨u,a,b,c,d,rfl,a2,hv⟩;obtain⟨tv,xv,rfl⟩:=hv.iface;have a1:=ac w2 (.cells #[.int .i64 a,.int .i64 b,.int .i64 c,.int .i64 d] 117);have HV:=Qa ((hv.later a1).imp (Q:=(w.heap.size<= ·)) fun g hg _=>Zb a3.out.size hg);have HB:=Qa (bE (bE a3.out a2) a1);clear a2 hv a1 Hp;go_wp2_with fail;go_ret2;exact⟨_,rfl,HB.out,HV.out⟩
open Go.Shelf
theorem pk {a:Bool}{s:ByteArray}{x:Int}:Calls Tryz.prog 53 #[.agg #[.bool a,.string s,.int .i64 x]] w fun e w'=>e =.returned (.agg #[.bool a,.string s,.int .i64 x])/\Below w.heap.size w w':=by
 have a0:Below w.heap.size w ((w.alloc (.cells #[.bool a,.string s,.int .i64 x] 75)).alloc (.cells #[.bool a,.string s,.int .i64 x] 124)):=((Zd _ _).alloc (Za _) _).alloc (by simp) _;have a1:=Qa a0;clear a0;go_enter Tryz.func53,Tryz.ntmps53;go_wp2_with fail;have hh:((w.alloc (.cells #[.bool a,.string s,.int .i64 x] 75)).alloc (.cells #[.bool a,.string s,.int .i64 x] 124)).heap[w.heap.size+1]?=some (.cells #[.bool a,.string s,.int .i64 x] 124 (0,0)):=by
  have:=Ze (w.alloc (.cells #[.bool a,.string s,.int .i64 x] 75)) (.cells #[.bool a,.string s,.int .i64 x] 124)
  rwa[World.size_alloc] at this
 exact Zg (results_cell_row Tryz.results53 _ _ (w.heap.size+1) 124 #[.bool a,.string s,.int .i64 x] (0,0) _ (by simp) hh Tryz.underlying124 rfl (by kernel_rfl)) rfl ⟨rfl,a1.out⟩
inductive oE:Int->Bool->ByteArray->Dc->Value->Prop
 |null (t:Bool) (x:ByteArray) (d:Dc):oE 1 t x d (.iface 58 (.agg #[]))
 |bool (t:Bool) (x:ByteArray) (d:Dc):oE 2 t x d (.iface 59 (.bool t))
 |num (t:Bool) (x:ByteArray) (d:Dc):oE 3 t x d (.iface 127 (.agg #[.bool d.neg,.string d.digits,.int .i64 d.exp]))
 |text (t:Bool) (x:ByteArray) (d:Dc):oE 4 t x d (.iface 40 (.string x))
 |hole (t:Bool) (x:ByteArray) (d:Dc):oE 7 t x d (.iface 54 (.agg #[]))
def bN (w:World)(gt a:Nat)(k:Int)(t:Bool)(x:ByteArray)(d:Dc)(vn vk:Value):Prop:= ∀ (j:Nat) (u:Value), [.int .i64 k,.bool t,.string x,.bool d.neg,.string d.digits,.int .i64 d.exp,vn,vk][j]?=some u->w.cell? ⟨gt,a*8+j,none⟩=some u
theorem bN.all {a:Nat}{k:Int}{t:Bool}{x:ByteArray}(h:bN w gt a k t x d vn vk):w.cell? ⟨gt,a*8,none⟩=some (.int .i64 k)/\w.cell? ⟨gt,a*8+1,none⟩=some (.bool t)/\w.cell? ⟨gt,a*8+2,none⟩=some (.string x)/\w.cell? ⟨gt,a*8+3,none⟩=some (.bool d.neg)/\w.cell? ⟨gt,a*8+4,none⟩=some (.string d.digits)/\w.cell? ⟨gt,a*8+5,none⟩=some (.int .i64 d.exp)/\w.cell? ⟨gt,a*8+6,none⟩=some vn/\w.cell? ⟨gt,a*8+7,none⟩=some vk:=
 ⟨h 0 _ rfl,h 1 _ rfl,h 2 _ rfl,h 3 _ rfl,h 4 _ rfl,h 5 _ rfl,h 6 _ rfl,h 7 _ rfl⟩
theorem bN.later {a:Nat}{k:Int}{t:Bool}{x:ByteArray}(h:bN w gt a k t x d vn vk)(hb:Below w.heap.size w w'):bN w' gt a k t x d vn vk:=fun j u hu=>Zf hb (h j u hu)
abbrev og (k:Int) (t:Bool) (x:ByteArray) (d:Dc) (vn vk:Value):Obj:=.cells #[.int .i64 k,.bool t,.string x,.bool d.neg,.string d.digits,.int .i64 d.exp,vn,vk] 78
theorem AQ {a:Nat}{k:Int}{t:Bool}{x:ByteArray}{nk:Nat}(hc:bN w gt a k t x d (.slice An nn cn) (.slice Ak nk ck))(ha:a<N)(hN:N<=1000000)(hl:oE k t x d u):Calls Tryz.prog 29 #[.slice (some ⟨gt,0,none⟩) N cap,.int .i64 (a:Int)] w fun e w'=>e =.returned u/\Below w.heap.size w w':=by
 obtain⟨c0,c1,c2,c3,c4,c5,c6,c7⟩:=hc.all;have a1:(a:Int)<N:=by omega
 have a0:=Qa (ac w (og k t x d (.slice An nn cn) (.slice Ak nk ck)));clear hc
 cases hl
 case num=>
  go_enter Tryz.func29,Tryz.ntmps29;go_wp2_with fail;(with_reducible refine pk.mono ?_);rintro e w1 ⟨rfl,hb⟩;have Hb:=Qa (a0.out.trans (hb.mono a0.out.size));clear hb;go_wp2_with fail;go_ret;exact⟨rfl,Hb.out⟩
 all_goals
  go_enter Tryz.func29,Tryz.ntmps29;go_wp2_with fail;go_ret;exact⟨rfl,a0.out⟩
def E6 (w:World)(j:JV)(e:Ending)(w':World):Prop:= ∃u,e =.returned u/\Below w.heap.size w w'/\VW (w.heap.size<= ·) w' u j
theorem zr {old new:Value}{k:JV}(hv:bB (VW (fun g=>B<=g/\old.ownBlock≠some g) w) us ks)(hu:VW (fun g=>B<=g/\old.ownBlock≠some g) w u k)(hg:w.grownBy w5 old.ownBlock)(hd:new.ownBlock=old.ownBlock\/new.ownBlock=some w.heap.size) :
  bB (VW (fun g=>B<=g/\new.ownBlock≠some g) w5) (us ++ [u]) (ks ++ [k]):=by
 have key:∀u k,VW (fun g=>B<=g/\old.ownBlock≠some g) w u k->VW (fun g=>B<=g/\new.ownBlock≠some g) w5 u k:=fun u k h=>h.stay fun g o ⟨h1,h2⟩ a0 _=>⟨⟨h1,fun e=>by
  rcases hd with hd|hd
  ·rw[hd] at e;exact h2 e
  ·rw[hd] at e;have:=ae a0;injection e with e
   omega⟩,(hg.block g (ae a0) (fun e=>h2 e.symm)).trans a0⟩
 exact(hv.mono key).snoc (key _ _ hu)
def Kd (B:Nat)(w2:World)(ks:List JV)(s6 s7:Value)(wr:World):Prop:= ∃ (i:Nat) (A:Option Addr) (c:Nat) (us:List Value),s7 =.int .i64 i/\i<=ks.length/\s6 =.slice A i c/\Below w2.heap.size w2 wr/\wr.ownsRow B 32 1 (.slice A i c) i us/\bB (VW (fun g=>B<=g/\(Value.slice A i c).ownBlock≠some g) wr) us (ks.take i)
theorem zY {a:Nat}{t:Bool}{x:ByteArray}(hc:bN w gt a 5 t x d (.slice An nn cn) (.slice Ak ks.length ck))(hk:bK w 0 (.slice Ak ks.length ck) ps)(b8:ps.length=ks.length)(ha:a<N)(hN:N<=1000000)(hl:ks.length<=1000000)
  (H:∀ (i:Nat) (k:JV) (p:Nat),ks[i]?=some k->ps[i]?=some p->∀w1,Below w.heap.size w w1->Calls Tryz.prog 29 #[.slice (some ⟨gt,0,none⟩) N cap,.int .i64 (p:Int)] w1 (E6 w1 k)) :
  Calls Tryz.prog 29 #[.slice (some ⟨gt,0,none⟩) N cap,.int .i64 (a:Int)] w (E6 w (dU ks)):=by
 obtain⟨c0,c1,c2,c3,c4,c5,c6,c7⟩:=hc.all;have e0:(a:Int)<N:=by omega
 have a2:=Qa (ac w (og 5 t x d (.slice An nn cn) (.slice Ak ks.length ck)));have a0:=Qa (Ze w (og 5 t x d (.slice An nn cn) (.slice Ak ks.length ck)));have Hk:=Qa (bK.below hk a2.out (Za _));have HH:=Qa H;have b3:=Qa b8;clear hc hk H b8;go_enter Tryz.func29,Tryz.ntmps29;go_wp2_with fail;obtain⟨w2,b6⟩:∃w2,w.alloc (og 5 t x d (.slice An nn cn) (.slice Ak ks.length ck))=w2:=⟨_,rfl⟩;rw[b6] at a2 a0 Hk ⊢;clear b6 c0 c1 c2 c3 c4 c5 c6 c7;have a9:=Qa (show w.heap.size<w2.heap.size from ae a0.out)
 go_loopw [6,7] (fun s6 s7 wr=>Kd w2.heap.size w2 ks s6 s7 wr) (fun _ v _=>ks.length - (intOf v).toNat)
 case atStart=>exact⟨0,none,0, [],rfl,Zj _,rfl,Zd _ _,⟨rfl,.inl ⟨rfl,rfl⟩⟩,bB.nil _⟩
 case round=>
  obtain⟨i,A,c,us,rfl,hi,rfl,hb,ho,hv⟩:=hrel;have c7:=aa (aj a0.out hb) (j:=7) (u:=.slice Ak ks.length ck) rfl;have Hb:=Qa hb;have Ho:=Qa ho;have Hv:=Qa hv;have b7:=hb.size;clear hb ho hv
  by_cases hlt:i<ks.length
  ·obtain⟨k,hki⟩:∃k,ks[i]?=some k:=⟨_,Zc hlt⟩;obtain⟨p,b1⟩:∃p,ps[i]?=some p:=⟨_,Zc (by rw[b3.out];exact hlt)⟩;have a5:=Hk.out.below Hb.out (Za _);unfold bK at a5;rw[b3.out] at a5;obtain⟨_,_,e,_,_,hA⟩:=ah a5;obtain⟨gk,rfl⟩:=hA (by omega);obtain⟨e1,-,-⟩:=Value.slice.inj e;subst e1;have ck0:=aA a5 rfl i (by omega);rw[List.getElem?_map,b1] at ck0;simp only[Option.map_some,cI] at ck0;have HC:=Qa (HH.out i k p hki b1 wr (a2.out.trans (Hb.out.mono a2.out.size)));have d0:=Qa hki;have b2:(i:Int)<ks.length:=by omega
   clear hki b1 a5 e hA;go_wp2_with fail;(with_reducible refine HC.out.mono ?_);rintro e w3 ⟨u,rfl,a6,hu⟩;obtain⟨tv,xv,rfl⟩:=hu.iface;have d2:=a6.size;have d3:=Qa (Hb.out.trans (a6.mono b7));have a1:=a6.alloc d2 (.cells #[.iface tv xv] 32);have a4:=Qa (aq Ho.out a1 (Za _));have d4:=Qa (ar w3 [.iface tv xv] 32);have hob:∀b,(Value.slice A i c).ownBlock=some b->b<wr.heap.size:=fun b hb=>ae (al Ho.out hb).2.choose_spec
   have d1:=Qa (Hv.out.mono fun _ _ h=>h.later a1);have Hu:=Qa ((hu.later (ac w3 (.cells #[.iface tv xv] 32))).imp (Q:=fun g=>w2.heap.size<=g/\(Value.slice A i c).ownBlock≠some g) fun g hg _=>⟨by omega,fun e=>by have:=hob g e;omega⟩);have a3:=Qa (show w2.heap.size<=(w3.alloc (.cells #[.iface tv xv] 32)).heap.size by simp;omega);have b0:=Qa (d3.out.alloc (by omega) (.cells #[.iface tv xv] 32));clear a6 a1 hu hob;go_wp2_with (at_builtin;refine ju yZ a4.out d4.out a3.out ?_;intro v' w5 p1 p2 p3;obtain⟨A5,q5,rfl,-,-,-⟩:=ah p1;have HK:=Qa p1;have HG:=Qa p2;have HD:=Qa p3;clear p1 p2 p3);refine⟨⟨i+1,A5,q5,us ++ [.iface tv xv],by go_num,by omega,rfl,b0.out.grown HG.out a3.out (fun g e=>(al a4.out e).1),HK.out,?_⟩,by simp[intOf];omega⟩;rw[cf d0.out];exact zr d1.out Hu.out HG.out HD.out
  ·obtain rfl:i=ks.length:=by omega
   have b2:¬ (ks.length:Int)<ks.length:=by omega
   have b9:=Qa (show us.length=ks.length by have:=Hv.out.1;rw[List.take_length] at this;exact this);have c8:bB (VW (fun g=>w2.heap.size<=g/\(Value.slice A ks.length c).ownBlock≠some g) wr) us ks:=by have:=Hv.out;rw[List.take_length] at this;exact this
   have d5:=Qa c8;have HN:=Qa (mC (by have:=Sl.of_own Ho.out (us:=us);exact this) (fun v hv=>by
    obtain⟨j,hj,rfl⟩:=List.getElem_of_mem hv;exact(Hv.out.2 j us[j] ((ks.take ks.length)[j]'(by rw[List.take_length];have:=b9.out;omega)) (Zc hj) (Zc _)).iface) (by have:=b9.out;omega))
   clear hlt c8;go_wp2_with fail;(with_reducible refine HN.out.mono ?_);rintro e w3 ⟨gl,A1,c1,rfl,a7,d9,b4,b5⟩;have d6:=Qa (a2.out.trans ((Hb.out.trans (a7.mono b7)).mono a2.out.size));have c9:=Qa (zJ (Q:=(w.heap.size<= ·)) b4 (b5.stay fun g o hp hg _ _=>⟨by have:=a9.out;omega,hg⟩) (by have:=a9.out;omega) (d5.out.mono fun _ _ h=>(h.later a7).imp fun g hg _=>by have:=a9.out;omega));clear a7 b4 b5;go_wp2_with fail;go_ret;exact⟨_,rfl,d6.out,c9.out⟩
def J6 (B:Nat)(w2:World)(ns:List ByteArray)(ks:List JV)(s10 s11:Value)(wr:World):Prop:= ∃ (i:Nat) (A:Option Addr) (c:Nat) (L:List (ByteArray×Value)),s11 =.int .i64 i/\i<=ks.length/\s10 =.slice A i c/\L.length=i/\Below w2.heap.size w2 wr/\wr.ownsRow B 111 2 (.slice A i c) i (ga L)/\L.map Prod.fst=ns.take i/\bB (VW (fun g=>B<=g/\(Value.slice A i c).ownBlock≠some g) wr) (L.map Prod.snd) (ks.take i)
theorem DA {a:Nat}{t:Bool}{x:ByteArray}(hc:bN w gt a 6 t x d (.slice An ks.length cn) (.slice Ak ks.length ck))(e5:cJ w 0 (.slice An ks.length cn) ns)(hk:bK w 0 (.slice Ak ks.length ck) ps)(hnl:ns.length=ks.length)(f1:ps.length=ks.length)(ha:a<N)(hN:N<=1000000)(hl:ks.length<=1000000)(e1:∀s∈ns,kf s)(e4:gO ns)
  (H:∀ (i:Nat) (k:JV) (p:Nat),ks[i]?=some k->ps[i]?=some p->∀w1,Below w.heap.size w w1->Calls Tryz.prog 29 #[.slice (some ⟨gt,0,none⟩) N cap,.int .i64 (p:Int)] w1 (E6 w1 k)) :
  Calls Tryz.prog 29 #[.slice (some ⟨gt,0,none⟩) N cap,.int .i64 (a:Int)] w (E6 w (.mk 6 false ⟨#[]⟩ ⟨false,⟨#[]⟩,0⟩ ns ks)):=by
 obtain⟨c0,c1,c2,c3,c4,c5,c6,c7⟩:=hc.all;have g6:(a:Int)<N:=by omega
 have a2:=Qa (ac w (og 6 t x d (.slice An ks.length cn) (.slice Ak ks.length ck)));have a3:=Qa (Ze w (og 6 t x d (.slice An ks.length cn) (.slice Ak ks.length ck)));have Hk:=Qa (bK.below hk a2.out (Za _));have f2:=Qa (cJ.below e5 a2.out (Za _));have HH:=Qa H;have d6:=Qa f1;have b3:=Qa hnl;have g0:=Qa e1;have e6:=Qa e4;clear hc hk e5 H f1 hnl e1 e4;go_enter Tryz.func29,Tryz.ntmps29;go_wp2_with fail;obtain⟨w2,e0⟩:∃w2,w.alloc (og 6 t x d (.slice An ks.length cn) (.slice Ak ks.length ck))=w2:=⟨_,rfl⟩;rw[e0] at a2 a3 Hk f2 ⊢;clear e0 c0 c1 c2 c3 c4 c5 c6 c7;have b8:=Qa (show w.heap.size<w2.heap.size from ae a3.out)
 go_loopw [10,11] (fun s10 s11 wr=>J6 w2.heap.size w2 ns ks s10 s11 wr) (fun _ v _=>ks.length - (intOf v).toNat)
 case atStart=>exact⟨0,none,0, [],rfl,Zj _,rfl,rfl,Zd _ _,⟨rfl,.inl ⟨rfl,rfl⟩⟩,rfl,bB.nil _⟩
 case round=>
  obtain⟨i,A,c,L,rfl,hi,rfl,f0,hb,ho,e8,hv⟩:=hrel;have b4:=aj a3.out hb;have c7:=aa b4 (j:=7) (u:=.slice Ak ks.length ck) rfl;have Hb:=Qa hb;have Ho:=Qa ho;have Hv:=Qa hv;have e7:=Qa e8;have d1:=Qa f0;have a9:=hb.size;clear hb ho hv e8 f0
  by_cases hlt:i<ks.length
  ·obtain⟨k,hki⟩:∃k,ks[i]?=some k:=⟨_,Zc hlt⟩;obtain⟨p,d4⟩:∃p,ps[i]?=some p:=⟨_,Zc (by rw[d6.out];exact hlt)⟩;obtain⟨s,b6⟩:∃s,ns[i]?=some s:=⟨_,Zc (by rw[b3.out];exact hlt)⟩;have a5:=Hk.out.below Hb.out (Za _);have a6:=f2.out.below Hb.out (Za _);unfold bK at a5;unfold cJ at a6;rw[d6.out] at a5;rw[b3.out] at a6;obtain⟨gk,hgk⟩:∃gk,Ak=some ⟨gk,0,none⟩:=by
    obtain⟨_,_,e,_,_,hA⟩:=ah a5;obtain⟨rfl,-,-⟩:=Value.slice.inj e;exact hA (by omega)
   obtain⟨gn,f6⟩:∃gn,An=some ⟨gn,0,none⟩:=by
    obtain⟨_,_,e,_,_,hA⟩:=ah a6;obtain⟨rfl,-,-⟩:=Value.slice.inj e;exact hA (by omega)
   subst hgk f6;have ck0:=aA a5 rfl i (by omega);rw[List.getElem?_map,d4] at ck0;simp only[Option.map_some,cI] at ck0;have cn0:=aA a6 rfl i (by omega);rw[List.getElem?_map,b6] at cn0;simp only[Option.map_some,dR] at cn0;have c6:=aa b4 (j:=6) (u:=.slice (some ⟨gn,0,none⟩) ks.length cn) rfl;have b2:Below wr.heap.size wr wr.drew:=(Zd _ _).drew;have HC:=Qa (HH.out i k p hki d4 wr.drew (a2.out.trans ((Hb.out.trans (b2.mono a9)).mono a2.out.size)));have f3:=Qa hki;have f9:=Qa b6;have d5:(i:Int)<ks.length:=by omega
   have b1:=Qa (aO Ho.out b4 (by decide));have b7:=Qa (aO Ho.out (al a5 rfl).2.choose_spec (by decide));have d2:=Qa (aO Ho.out (al a6 rfl).2.choose_spec (by decide));have K6:=Qa (And.intro c6 (And.intro c7 (And.intro cn0 ck0)));clear hki d4 b6 a5 a6 b4 c6 ck0 cn0;go_wp2_with fail;refine aR (fun w'=>w'.cell? ⟨w.heap.size,6,none⟩=some (.slice (some ⟨gn,0,none⟩) ks.length cn)/\w'.cell? ⟨w.heap.size,7,none⟩=some (.slice (some ⟨gk,0,none⟩) ks.length ck)/\w'.cell? ⟨gn,i,none⟩=some (.string s)/\w'.cell? ⟨gk,i,none⟩=some (.int .i64 (p:Int))) (K6.out) fun a0=>?_
   refine tH 0 a0 ?_;refine tH 1 a0 ?_;refine tH 2 a0 ?_;refine tH 3 a0 ?_;refine tH 4 a0 ?_;refine tH 5 a0 ?_
   try simp only[Act.put,jP,jQ,jR]
   refine tH 6 a0 ?_;refine tH 7 a0 ?_;refine tH 8 a0 ?_;refine tH 9 a0 ?_;refine tH 10 a0 ?_;refine tH 11 a0 ?_
   try simp only[Act.put,jP,jQ,jR]
   refine rH 12 fun K hK=>?_
   go_simp;(with_reducible refine HC.out.mono ?_);rintro e w3 ⟨u,rfl,a1,hu⟩;obtain⟨tv,xv,rfl⟩:=hu.iface;have d3:=a1.size;have g2:=Qa (Hb.out.trans ((b2.trans (a1.mono b2.size)).mono a9));have a4:=(b2.trans (a1.mono b2.size)).alloc d3 (.cells #[.string s,.iface tv xv] 111);have b0:=Qa (aq Ho.out a4 (Za _));have g3:=Qa (ar w3 [.string s,.iface tv xv] 111);have hob:∀b,(Value.slice A i c).ownBlock=some b->b<wr.heap.size:=fun b hb=>ae (al Ho.out hb).2.choose_spec;have f5:=Qa (Hv.out.mono fun _ _ h=>h.later a4);have Hu:=Qa ((hu.later (ac w3 (.cells #[.string s,.iface tv xv] 111))).imp (Q:=fun g=>w2.heap.size<=g/\(Value.slice A i c).ownBlock≠some g) fun g hg _=>⟨Zb a9 hg,fun e=>by have:=hob g e;have:wr.heap.size<=g:=hg;omega⟩);have a7:=Qa (show w2.heap.size<=(w3.alloc (.cells #[.string s,.iface tv xv] 111)).heap.size by simp;have:wr.heap.size<=w3.heap.size:=d3;omega);have b9:=Qa (g2.out.alloc (Zb a9 d3) (.cells #[.string s,.iface tv xv] 111));have g7:=Qa a1;clear a4 hu hob
   refine hK.out _ _ (⟨Zf a1 a0.1,Zf a1 a0.2.1,Zf a1 a0.2.2.1,Zf a1 a0.2.2.2⟩) (fun a0=>?_);clear hK K
   try simp only[Act.put,jP,jQ,jR]
   refine tH 13 a0 ?_
   try simp only[Act.put,jP,jQ,jR]
   refine rH 14 fun K hK=>?_
   go_simp;refine hK.out _ _ ((by have hx:=ac w3 (.cells #[.string s,.iface tv xv] 111);exact⟨Zf hx a0.1,Zf hx a0.2.1,Zf hx a0.2.2.1,Zf hx a0.2.2.2⟩)) (fun a0=>?_);clear hK K
   try simp only[Act.put,jP,jQ,jR]
   refine rH 15 fun K hK=>?_
   refine xh zx b0.out g3.out a7.out ?_;intro v' w5 p1 p2 p3;obtain⟨A5,q5,rfl,-,-,-⟩:=ah p1;have HK:=Qa p1;have HG:=Qa p2;have HD:=Qa p3;clear p1 p2 p3;refine hK.out _ _ (⟨HG.out.cell a0.1 (fun e=>b1.out e.symm),HG.out.cell a0.2.1 (fun e=>b1.out e.symm),HG.out.cell a0.2.2.1 (fun e=>d2.out e.symm),HG.out.cell a0.2.2.2 (fun e=>b7.out e.symm)⟩) (fun a0=>?_);clear hK K
   try simp only[Act.put,jP,jQ,jR]
   refine tH 16 a0 ?_
   try simp only[Act.put,jP,jQ,jR]
   refine wpAnyH_done (by kernel_rfl) (NoPanic.normal ?_) _;clear a0;go_wp2_with fail;have g1:ga (L ++ [(s,.iface tv xv)])=ga L ++ [.string s,.iface tv xv]:=by simp[ga]
   refine⟨⟨i+1,A5,q5,L ++ [(s,.iface tv xv)],by go_num,by omega,rfl,by rw[List.length_append,d1.out];rfl,b9.out.grown HG.out a7.out (fun g e=>(al b0.out e).1),by rw[g1];exact HK.out,by rw[cf f9.out,List.map_append,e7.out];rfl,?_⟩,by simp[intOf];omega⟩;rw[cf f3.out,List.map_append];exact zr f5.out Hu.out HG.out HD.out
  ·obtain rfl:i=ks.length:=by omega
   have d5:¬ (ks.length:Int)<ks.length:=by omega
   have hn:L.map Prod.fst=ns:=by rw[e7.out,<-b3.out,List.take_length]
   have c8:bB (VW (fun g=>w2.heap.size<=g/\(Value.slice A ks.length c).ownBlock≠some g) wr) (L.map Prod.snd) ks:=by have:=Hv.out;rw[List.take_length] at this;exact this
   have HN:=Qa (gL (zd.of_own Ho.out) (fun p hp=>by
    obtain⟨j,hj,rfl⟩:=List.getElem_of_mem hp;exact⟨g0.out _ (by rw[<-hn];exact List.mem_map.2 ⟨_,List.getElem_mem hj,rfl⟩),(c8.2 j L[j].2 (ks[j]'(by have:=d1.out;omega)) (by rw[List.getElem?_map,Zc hj];rfl) (Zc _)).iface⟩) (by rw[hn];exact e6.out.imp fun h=>nF h) (by omega))
   have Hn:=Qa hn;have f8:=Qa c8;clear hlt hn c8;go_wp2_with fail;(with_reducible refine HN.out.mono ?_);rintro e w3 ⟨gl,A1,c1,S,rfl,d0,g5,e3,d9,hp,hs⟩;have g4:=Qa (a2.out.trans ((Hb.out.trans (d0.mono a9)).mono a2.out.size));have b5:S.length=ks.length:=by rw[hp.length_eq];exact d1.out
   have f4:ns.length=ks.length:=b3.out;have c9:=Qa (xG (Q:=(w.heap.size<= ·)) (L:=L) (ms:=ns.zip ks) (by rw[b5];exact e3) (by rw[b5];exact d9.stay fun g o hp hg _ _=>⟨by have:=b8.out;omega,hg⟩) (by have:=b8.out;omega) hp hs (by rw[List.map_fst_zip (by omega)];exact Hn.out) (by rw[List.map_snd_zip (by omega)];exact f8.out.mono fun _ _ h=>(h.later d0).imp fun g hg _=>by have:=b8.out;omega));rw[kA (by rw[List.map_fst_zip (by omega)];exact e6.out)] at c9;have e2:mJ (ns.zip ks) =.mk 6 false ⟨#[]⟩ ⟨false,⟨#[]⟩,0⟩ ns ks:=by unfold mJ;rw[List.map_fst_zip (by omega),List.map_snd_zip (by omega)]
   rw[e2] at c9;clear d0 e3 d9 hp hs b5 f4 e2;go_wp2_with fail;go_ret;exact⟨_,rfl,g4.out,c9.out⟩
theorem DW {T:ByteArray->Prop}(hf:dI w 0 v (j0.flat 0))(hsz:j0.size<=1000000):∀ (j:JV) (a:Nat) (w1:World),Below w.heap.size w w1->dm j0 0 a j->Ok True T j->Calls Tryz.prog 29 #[v,.int .i64 (a:Int)] w1 (E6 w1 j):=by
 obtain⟨A,cap,rfl,a3,hm,hA⟩:=hf.form;have hn:=j0.size_pos;obtain⟨gt,rfl⟩:=hA (by rw[JV.flat_len];omega);rw[JV.flat_len] at a3 hm hf ⊢;refine JV.ind (P:=fun j=> ∀ (a:Nat) (w1:World),Below w.heap.size w w1->dm j0 0 a j->Ok True T j->Calls Tryz.prog 29 #[.slice (some ⟨gt,0,none⟩) j0.size cap,.int .i64 (a:Int)] w1 (E6 w1 j)) (fun k t x n ns ks ih a w1 hb hs a9=>?_);have a1:=hs.node;rw[Nat.sub_zero] at a1;obtain⟨vn,vk,h1,h2,h3⟩:=(hf.below hb (Za _)).node a1;have hc:=(show bN w1 gt a k t x n vn vk from fun j u hu=>h3 j u hu);have b0:=hs.bd;have b1:1<=(JV.mk k t x n ns ks).size:=JV.size_pos _;have ha:a<j0.size:=by omega
 obtain⟨Ak,ck,rfl,-,-,-⟩:=ah h2;obtain⟨An,cn,rfl,-,-,-⟩:=ah h1;have leaf:∀u,oE k t x n u->VW (w1.heap.size<= ·) w1 u (.mk k t x n ns ks)->Calls Tryz.prog 29 #[.slice (some ⟨gt,0,none⟩) j0.size cap,.int .i64 (a:Int)] w1 (E6 w1 (.mk k t x n ns ks)):=fun u hl hv=>(AQ hc ha hsz hl).mono fun e w' ⟨he,a5⟩=>⟨u,he,a5,hv.later a5⟩
 have hkl:ks.length<=1000000:=by
  have:=bP ks;simp only[JV.size] at b0;omega
 have a4:bK w1 0 (.slice Ak ks.length ck) (aV (a+1) ks):=by
  simp only[bh] at h2;exact h2
 simp only[bh] at hc;have a0:∀ (i:Nat) (u:JV) (p:Nat),ks[i]?=some u->(aV (a+1) ks)[i]?=some p->dm j0 0 p u/\u∈ks:=fun i u p hu hp=>by
  have hi:=(List.getElem?_eq_some_iff.1 hu).1;have e:ks=ks.take i++u::ks.drop (i+1):=by
   have h:=(List.take_append_drop i ks).symm;rw[List.drop_eq_getElem_cons hi] at h;rw[(List.getElem?_eq_some_iff.1 hu).2] at h;exact h
  have a6:p=a+1+JV.sizes (ks.take i):=by
   rw[e,dh,List.getElem?_append_right (by rw[bh,List.length_take];omega),bh,List.length_take,Nat.min_eq_left (by omega),Nat.sub_self] at hp;simpa [aV] using hp.symm
  refine⟨?_,Zk hu⟩;rw[a6];rw[e] at hs;exact hs.kid
 cases a9 with
 |null=>exact leaf _ (.null ..) .null
 |bool b=>exact leaf _ (.bool ..) (.bool _)
 |num d hd hn=>exact leaf _ (.num ..) (.num _)
 |text s hs=>exact leaf _ (.text ..) (.text _)
 |hole h=>exact leaf _ (.hole ..) .hole
 |list ks hks=>exact zY hc a4 (bh _ _) ha hsz hkl fun i u p hu hp w2 a2=>ih u (a0 i u p hu hp).2 p w2 (hb.trans (a2.mono hb.size)) (a0 i u p hu hp).1 (hks u (a0 i u p hu hp).2)
 |obj ns ks hnl h8 hr hks=>
  have a7:cJ w1 0 (.slice An ks.length cn) ns:=by
   have:=h1;rw[hnl] at this;exact this
  rw[hnl] at hc;exact DA hc a7 a4 hnl (bh _ _) ha hsz hkl (fun s hs=>⟨(h8 s hs).1,by have:=(h8 s hs).2;omega⟩) hr fun i u p hu hp w2 a2=>ih u (a0 i u p hu hp).2 p w2 (hb.trans (a2.mono hb.size)) (a0 i u p hu hp).1 (hks u (a0 i u p hu hp).2)
theorem CY {T:ByteArray->Prop}(hf:dI w 0 v (j.flat 0))(hsz:j.size<=1000000)(a1:Ok True T j):Calls Tryz.prog 8 #[v] w (E6 w j):=by
 have H:=Qa (show Calls Tryz.prog 29 #[v,.int .i64 0] w (fun e w'=>E6 w j e w') from DW hf hsz j 0 w (Zd _ _) (.here _ _) a1);obtain⟨A,cap,rfl,a0,hm,hA⟩:=hf.form;have hn:=j.size_pos;rw[JV.flat_len] at H hm ⊢;have hne:((j.size:Int)==0)=false:=by simp only[beq_eq_false_iff_ne];omega
 clear hf hA;go_enter Tryz.func8,Tryz.ntmps8;go_wp2_with fail;(with_reducible refine H.out.mono ?_);rintro e w1 ⟨u,rfl,hb,hv⟩;have Hb:=Qa hb;have Hv:=Qa hv;obtain⟨t,x,rfl⟩:=hv.iface;clear hb hv;go_wp2_with fail;go_ret;exact⟨_,rfl,Hb.out,Hv.out⟩
