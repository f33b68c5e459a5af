import Derived.Test.YtohibglohlfjfaaGreatDoorGZ6bj
set_option linter.unusedVariables false
set_option linter.unusedSimpArgs false
set_option maxHeartbeats 64000000
set_option maxRecDepth 100000
namespace Go.Proofs.YtohibglohlfjfaaGreatDoor
open Go.RowKit Go.Shelf
variable {cs:Array Value}{f:Fr}{j:JV}{frs fs:List Fr}{hs:List Int}{bs':List Nat}{xs:List UInt8}{u':List Value}{B g i n pb q want xb:Nat}{F P:Nat->Prop}{e:TypeId}{T U:TypeId->Prop}{dv pv v:Value}{w w':World}
def OT (w:World)(v:Value)(o:Option JV):Prop:=match o with
 |none=> ∃A q,v =.slice A 0 q
 |some j=>dL w 0 v (j.flat 0)/\Ok True (Et (6000+20)) j/\j.size<=6000+1
theorem OT.below {o:Option JV}(h:OT w v o)(hb:Below w.heap.size w w'):OT w' v o:=by
 cases o with
 |none=>exact h
 |some j=>exact⟨h.1.below hb (Zb _),h.2⟩
def Kk (w:World)(e:Ending)(w':World):Prop:= ∃A n q ok,e =.returned (.tuple #[.slice A n q,.bool ok])/\Below w.heap.size w w'/\(ok=true->∃o,OT w' (.slice A n q) o)
def Jz (w:World)(A2:Option Addr)(n2 q2:Nat)(bx:Obj)(nb:Nat)(s6:Value)(wr:World):Prop:= ∃ (i:Nat) (j:JV),s6 =.int .i64 i/\i<=nb/\j.size=n2/\bj (w.heap.size<= ·) wr w.heap.size (.slice A2 n2 q2) (j.flat 0)/\Ok True (Et (6000+i)) j/\Below w.heap.size w wr/\wr.heap[w.heap.size]?=some bx
theorem wm {tv th tb:Value}{bs:List Int}(h1:Bs w tv xs)(h2:Sl w th (hs.map iV))(h3:Sl w tb (bs.map iV))(hh:∀z∈hs,-9223372036854775808<=z/\z<=9223372036854775807)(f2:∀z∈bs,-9223372036854775808<=z/\z<=9223372036854775807):Calls Tryz.prog 5 #[.agg #[tv,th,tb]] w (Kk w):=by
 obtain⟨hm,A,c,rfl,hc,-⟩:=id h1;obtain⟨f5,Ah,ch,rfl,e4,-⟩:=id h2;obtain⟨d6,Ab,cb,rfl,d9,b8⟩:=id h3;rw[List.length_map] at f5 e4 d6 d9 h2 h3 ⊢;rw[List.length_map] at b8 ⊢;have c4:=ac w (.cells #[.slice A xs.length c,.slice Ah hs.length ch,.slice Ab bs.length cb] 25);have a7:=Qa (Zf w (.cells #[.slice A xs.length c,.slice Ah hs.length ch,.slice Ab bs.length cb] 25));have c8:=Qa (h1.below c4);have Hh:=Qa h2;have g0:=Qa b8;have g5:=Qa hh;have g1:=Qa f2;have a4:=Qa c4;clear h1 h2 h3 b8 hh f2 c4 e4 d9 f5 d6
 by_cases h0:xs.length=0
 ·have g7:((xs.length:Int)==0)=true:=by rw[h0];rfl
  clear h0 hc hm;go_enter Tryz.func5,Tryz.ntmps5;go_wp2_with fail;go_ret2;exact⟨none,0,0,true,rfl,a4.out,fun _=>⟨none,none,0,rfl⟩⟩
 have g7:((xs.length:Int)==0)=false:=by simp only[beq_eq_false_iff_ne];omega
 by_cases hl:xs.length<=6000
 rotate_left
 ·have g4:(6000:Int)<xs.length:=by omega
  clear h0 hl;go_enter Tryz.func5,Tryz.ntmps5;go_wp2_with fail;go_ret2;exact⟨none,0,0,false,rfl,a4.out,fun e=>by cases e⟩
 have g4:¬ (6000:Int)<xs.length:=by omega
 by_cases b6:hs.length<=20
 rotate_left
 ·have f6:(20:Int)<hs.length:=by omega
  clear h0 hl b6;go_enter Tryz.func5,Tryz.ntmps5;go_wp2_with fail;go_ret2;exact⟨none,0,0,false,rfl,a4.out,fun e=>by cases e⟩
 have f6:¬ (20:Int)<hs.length:=by omega
 by_cases d0:bs.length<=20
 rotate_left
 ·have f8:(20:Int)<bs.length:=by omega
  clear h0 hl b6 d0;go_enter Tryz.func5,Tryz.ntmps5;go_wp2_with fail;go_ret2;exact⟨none,0,0,false,rfl,a4.out,fun e=>by cases e⟩
 have f8:¬ (20:Int)<bs.length:=by omega
 have a1:=Qa (zQ c8.out hl);have Hl:=Qa (And.intro hl (And.intro b6 d0));clear h0 hl b6 d0;go_enter Tryz.func5,Tryz.ntmps5;go_wp2_with fail;refine Za a1 ?_;rintro e w2 ⟨v,cd,h,l,sA,sn,sc,rfl,ht⟩;obtain⟨a9,⟨A2,n2,q2,rfl⟩,hj⟩:=ht;have a2:=ac w2 (.cells #[.int .i64 cd,.int .i64 h,.int .i64 l,.slice sA sn sc] 62);have b0:=Qa (a4.out.trans ((a9.trans (a2.mono a9.size)).mono a4.out.size));have a3:=ai (ai a7.out a9) a2;have e6:=a4.out.size
 by_cases hcd:cd=0
 rotate_left
 ·have g8:(cd !=0)=true:=by simp[hcd]
  clear a9 hj hcd a1 c8;go_wp2_with fail;go_ret2;exact⟨none,0,0,false,rfl,b0.out,fun e=>by cases e⟩
 obtain⟨j,hg,hf,hz⟩:=hj hcd;subst hcd;have c6:=hf.below a2 (Zb _);have e0:j.size=n2:=by obtain⟨_,_,e,_⟩:=hf.form;obtain⟨-,e,-⟩:=Value.slice.inj e;rw[e,JV.flat_len]
 have HD:=Qa (xm (c6.flat.low (Zk _)) (by have:=Hl.out.1;omega));have c9:=Qa c6;have Hg:=Qa hg;have Hz:=Qa (show j.size<=6000+1 by have:=Hl.out.1;omega);have Hn2:=Qa e0;clear a9 hj hf c6 hg hz e0 a1 c8;go_wp2_with fail;obtain⟨w3,f1⟩:∃w3,w2.alloc (.cells #[.int .i64 0,.int .i64 h,.int .i64 l,.slice sA sn sc] 62)=w3:=⟨_,rfl⟩;rw[f1] at HD c9 b0 a3 a2 ⊢;clear f1;refine Za HD ?_;rintro e w4 ⟨m,rfl,b5⟩;have b4:=ai a3 b5;have Hbx4:=Qa b4;have Hf4:=Qa (((c9.out.below b5 (Zb _)).low (base:=_) (b:=w.heap.size) e6).imp (Q:=(w.heap.size<= ·)) fun g hg _=>Zc e6 hg);have Hb4:=Qa (b0.out.trans (b5.mono b0.out.size));clear a3 b4 b5 HD c9 b0 a2
 by_cases hm3:(300:Int)<m
 ·go_wp2_with fail;go_ret2;exact⟨none,0,0,false,rfl,Hb4.out,fun e=>by cases e⟩
 go_wp2_with fail
 go_loopw [6,7] (fun s6 _ wr=>Jz w A2 n2 q2 (.cells #[.slice A xs.length c,.slice Ah hs.length ch,.slice Ab bs.length cb] 25 (0,0)) bs.length s6 wr) (fun v _ _=>bs.length - (intOf v).toNat)
 case atStart=>exact⟨0,j,rfl,Zk _,Hn2.out,Hf4.out,Ok.of_good (h:=True) (fun s h=>h.2) Hg.out,Hb4.out,Hbx4.out⟩
 case round=>
  obtain⟨i,jc,rfl,hi,e8,f3,e3,hb,a3⟩:=hrel;have d1:=aa a3 (j:=1) (u:=.slice Ah hs.length ch) rfl;have d2:=aa a3 (j:=2) (u:=.slice Ab bs.length cb) rfl;have b3:=Qa f3;have c1:=Qa e3;have Hb:=Qa hb;have a7:=Qa a3;have a6:=Qa e8;have g6:0<n2:=by have:=jc.size_pos;omega
  have h7:n2<=6000+1:=by have h5:=Hz.out;have h6:=Hn2.out;omega
  have g3:=hb.size;clear f3 e3 hb a3 e8
  by_cases hip:i<bs.length
  ·obtain⟨gp,op,rfl,d5⟩:=g0.out (by omega);obtain⟨p,b7⟩:∃s,bs[i]?=some s:=⟨_,Zd hip⟩;have cpc:=Zg Hb.out (d5 i (iV p) (by rw[List.getElem?_map,b7];rfl));unfold iV at cpc;obtain⟨b1,b2⟩:=g1.out p (Zl b7);obtain⟨r,hr⟩:∃r,Int.tmod p (n2:Int)=r:=⟨_,rfl⟩;have h8: -(n2:Int)<r/\r<n2:=by
    rw[<-hr];have h1:=Int.lt_tmod_of_pos p (show(0:Int)<n2 by omega);have h2:=Int.tmod_lt_of_pos p (show(0:Int)<n2 by omega);omega
   obtain⟨k,h4⟩:∃k:Nat,Int.tmod (r+n2) (n2:Int)=k:=⟨(Int.tmod (r+n2) (n2:Int)).toNat,by
    have:=Int.tmod_nonneg (n2:Int) (show 0<=r+ (n2:Int) by omega);omega⟩
   have c7:k<n2:=by have h2:=Int.tmod_lt_of_pos (r+n2) (show(0:Int)<n2 by omega);omega
   obtain⟨g2,rfl⟩:∃g2,A2=some ⟨g2,0,none⟩:=by
    obtain⟨_,_,e,_,_,hA⟩:=b3.out.form;obtain⟨rfl,-,-⟩:=Value.slice.inj e;exact hA (by rw[JV.flat_len];have:=a6.out;omega)
   obtain⟨nd,c5⟩:∃nd,(jc.flat 0)[k]?=some nd:=⟨_,Zd (by rw[JV.flat_len,a6.out];exact c7)⟩;obtain⟨vn,vk,-,-,a0⟩:=b3.out.flat.node c5;have c0:=a0 0 _ rfl;rw[Nat.add_zero] at c0;have c2:=a0 2 _ rfl;have b9:(i:Int)<bs.length:=by omega
   have d3:(0:Int)<n2:=by omega
   have hki:(k:Int)<n2:=by omega
   have e1:=Qa c5;clear d5 b7 a0 c5
   by_cases hk4:nd.kind=4
   ·obtain⟨q1,q2',q3,q4⟩:=b3.out.setText (nd.text++ ⟨#[255]⟩) e1.out;obtain⟨z1,j',z2,z3,z4⟩:=EG e1.out hk4 c1.out;rw[<-z4] at q1;have Hq:=Qa q1;have d4:=Qa (And.intro (z2.trans a6.out) z3);have e5:=Qa (And.intro q3 q4);have f9:¬9223372036854775807<nd.text.size+1:=by have:=Hl.out.2.2;omega
    clear q1 z1 z2 z3 z4 q3 q4;rw[hk4] at c0;have c3:(nd.kind==4)=true:=by rw[hk4];rfl
    go_wp2_with fail;obtain⟨cs,zz,a5⟩:=e5.out.1;refine⟨⟨i+1,j',by go_num,by omega,d4.out.1,Hq.out,?_,Hb.out.setCell e5.out.2 _,?_⟩,by simp[intOf];omega⟩
    ·exact d4.out.2
    ·exact(Below.heap_setCell wr _ _ _ (by
      intro e;have h9:=a7.out;rw[show w.heap.size=g2 from e,a5] at h9;have a5:=h9;injection a5 with a5
      injection a5 with _ a5 _
      exact absurd a5 (by decide))).trans a7.out
   ·have c3:(nd.kind==4)=false:=by simpa using hk4
    go_wp2_with fail;exact⟨⟨i+1,jc,by go_num,by omega,a6.out,b3.out,c1.out.imp fun s h=>Nat.le_succ_of_le h,Hb.out,a7.out⟩,by simp[intOf];omega⟩
  ·have b9:¬ (i:Int)<bs.length:=by omega
   have HH:=Qa (xV (T:=Et (6000+20)) (w:=wr) (B:=w.heap.size) (ps:=hs) Hb.out.size b3.out (c1.out.imp fun s h=>by unfold Et at *;have:=Hl.out.2.2;omega) (by have:=a6.out;omega) (Hh.out.below Hb.out) g5.out);clear hip;go_wp2_with fail;refine Za HH ?_;rintro e w5 ⟨j5,A5,m5,q5,rfl,f0,f4,g9,e2⟩;have Hr:=Qa (And.intro (show OT w5 (.slice A5 m5 q5) (some j5) from⟨f0.flat.low (Zk _),f4,by have:=a6.out;omega⟩) e2);clear f0 f4 g9 e2 HH;go_wp2_with fail;go_ret2;exact⟨A5,m5,q5,true,rfl,Hb.out.trans (Hr.out.2.mono Hb.out.size),fun _=>⟨some j5,Hr.out.1⟩⟩
theorem Ez (w:World)(a b:Obj):Hid (((w.alloc a).alloc b).heap[w.heap.size]?=some a)/\Hid (((w.alloc a).alloc b).heap[w.heap.size+1]?=some b)/\Hid (Below w.heap.size w ((w.alloc a).alloc b))/\Hid (Below w.heap.size w (w.alloc a)):=by
 have h1:=Zf (w.alloc a) b;rw[World.size_alloc] at h1;exact⟨ai (Zf w a) (ac _ b),h1,((Ze _ _).alloc (Zb _) _).alloc (by simp) _,ac w a⟩
structure Fr.ok (N:ByteArray->Prop) (f:Fr):Prop where
 list:f.obj=false->f.mems = []/\f.name=none
 obj:f.obj=true->f.items = []
 names:∀m∈f.mems,N m.1
 nodup:(f.mems.map Prod.fst).Nodup
 name:∀s,f.name=some s->N s/\s∉f.mems.map Prod.fst
def bZ (f:Fr):Bool:=f.obj&&f.name.isNone
def ww:Nat->List Fr->Option JV->Prop
 |0,frs,d=>d=none/\∀f fs,frs=f::fs->bZ f=false
 |1,frs,d=>d=none/\∃f fs,frs=f::fs/\f.obj=false
 |2,frs,d=>d=none/\∃f fs,frs=f::fs/\f.obj=true/\f.name=none
 |3,frs,d=>d=none/\∃f fs,frs=f::fs/\f.obj=true/\f.name=none
 |4,frs,d=>d=none/\∃f fs,frs=f::fs/\f.obj=true/\f.name.isSome=true
 |5,frs,d=>d=none/\∃f fs,frs=f::fs/\f.obj=false
 |6,frs,d=>d=none/\∃f fs,frs=f::fs/\f.obj=true/\f.name=none
 |7,frs,d=>frs = []/\d.isSome=true
 |_,_,_=>False
structure dl.ok (N:ByteArray->Prop) (c:dl):Prop where
 frs:∀f∈c.frs,f.ok N
 rest:∀f∈c.frs.tail,bZ f=false
 want:ww c.want c.frs c.done
theorem dl.ok.start (N:ByteArray->Prop):dl.ok N ⟨[],0,none⟩:=⟨by simp,by simp,rfl,by simp⟩
theorem gG (h:f.obj=true):cV (f::fs) j= ⟨{f with mems:=f.mems ++ [(f.name.getD ⟨#[]⟩,j)],name:=none}::fs,6,none⟩:=if_pos h
theorem ff (h:f.obj=false):cV (f::fs) j= ⟨{f with items:=f.items ++ [j]}::fs,5,none⟩:=if_neg (by rw[h];decide)
theorem mH {N:ByteArray->Prop}(h:∀f∈frs,f.ok N)(hr:∀f∈frs,bZ f=false):(cV frs j).ok N:=by
 cases frs with
 |nil=>exact⟨by simp[cV],by simp[cV],rfl,rfl⟩
 |cons f fs=>
  have hf:=h f (by simp);have hw:=hr f (by simp)
  by_cases ho:f.obj=true
  ·rw[gG ho];have hn:∃s,f.name=some s:=by
    simp only[bZ,ho,Bool.true_and] at hw
    cases he:f.name with
    |none=>rw[he] at hw;cases hw
    |some s=>exact⟨s,rfl⟩
   obtain⟨s,hs⟩:=hn;obtain⟨n1,n2⟩:=hf.name s hs;refine⟨fun g hg=>?_,fun g hg=>hr g (Zm _ hg),rfl,_,_,rfl,ho,rfl⟩;rcases List.mem_cons.1 hg with rfl|hg
   ·refine⟨fun e=>?_,fun _=>hf.obj ho,fun m hm=>?_,?_,fun s hs=>by cases hs⟩
    ·simp only at e;rw[ho] at e;cases e
    ·rcases List.mem_append.1 hm with hm|hm
     ·exact hf.names m hm
     ·obtain rfl:=List.mem_singleton.1 hm;simp only[hs,Option.getD_some];exact n1
    ·simp only[hs,Option.getD_some,List.map_append,List.map_cons,List.map_nil];rw[List.nodup_append];refine⟨hf.nodup,by simp,fun a ha b hb=>?_⟩;obtain rfl:=List.mem_singleton.1 hb;exact fun e=>n2 (e▸ha)
   ·exact h g (Zm _ hg)
  ·have a0:f.obj=false:=by simpa using ho
   rw[ff a0];refine⟨fun g hg=>?_,fun g hg=>hr g (Zm _ hg),rfl,_,_,rfl,a0⟩;rcases List.mem_cons.1 hg with rfl|hg
   ·exact⟨fun _=>hf.list a0,fun e=>(by simp only at e;rw[a0] at e;cases e),hf.names,hf.nodup,hf.name⟩
   ·exact h g (Zm _ hg)
def Ge (N:ByteArray->Prop):sd->Prop
 | .str s=>N s
 |_=>True
theorem dj {w:Nat}{d:Option JV}(h:ww w frs d)(hw:w=0\/w=1):d=none/\∀f fs,frs=f::fs->bZ f=false:=by
 rcases hw with rfl|rfl
 ·exact h
 ·obtain⟨h1,f,fs,rfl,h2⟩:=h;refine⟨h1,fun g gs e=>?_⟩;injection e with e _
  subst e;simp[bZ,h2]
theorem nW (h1:∀f fs,frs=f::fs->bZ f=false)(h2:∀f∈frs.tail,bZ f=false):∀f∈frs,bZ f=false:=by
 cases frs with
 |nil=>simp
 |cons g gs=>
  intro f hf;rcases List.mem_cons.1 hf with rfl|hf
  ·exact h1 _ _ rfl
  ·exact h2 f hf
theorem Fr.ok.new (N:ByteArray->Prop)(o:Bool):Fr.ok N ⟨o, [], [],none⟩:=⟨fun _=>⟨rfl,rfl⟩,fun _=>rfl,by simp,by simp,fun s h=>by cases h⟩
theorem BT {x:UInt8}(h:BA want x=true):(x=91\/x=123)/\(want=0\/want=1)\/x=93/\(want=1\/want=5)\/x=125/\(want=3\/want=6)\/x=58/\want=4\/x=44/\(want=5\/want=6):=by
 unfold BA at h
 split at h
 all_goals simp only[List.contains_eq_mem,List.mem_cons,List.not_mem_nil,or_false,decide_eq_true_eq] at h
 ·rcases h with rfl|rfl <;> simp
 ·rcases h with rfl|rfl|rfl <;> simp
 ·subst h;simp
 ·subst h;simp
 ·rcases h with rfl|rfl <;> simp
 ·rcases h with rfl|rfl <;> simp
theorem EH {N:ByteArray->Prop}{c c':dl}{t:sd}(h:c.ok N)(ht:Ge N t)(hs:dK c t=some c'):c'.ok N:=by
 obtain⟨frs,want,done⟩:=c;obtain⟨h1,h2,h3⟩:=h;simp only at h1 h2 h3
 cases t with
 |leaf j=>
  simp only[dK] at hs
  split at hs
  ·rename_i hw
   obtain rfl:=Zi hs;exact mH h1 (nW (dj h3 hw).2 h2)
  ·cases hs
 |str s=>
  simp only[dK] at hs
  split at hs
  ·rename_i hw
   have h4:done=none/\∃f fs,frs=f::fs/\f.obj=true/\f.name=none:=by
    try simp only at hw
    rcases hw with rfl|rfl <;> exact h3
   obtain⟨rfl,f,fs,rfl,h5,h6⟩:=h4
   try simp only at hs
   split at hs
   ·cases hs
   ·rename_i hn
    obtain rfl:=Zi hs;have hf:=h1 f (by simp);refine⟨fun g hg=>?_,h2,rfl,_,_,rfl,h5,rfl⟩;rcases List.mem_cons.1 hg with rfl|hg
    ·refine⟨fun e=>?_,hf.obj,hf.names,hf.nodup,fun s' e=>?_⟩
     ·simp only at e;rw[h5] at e;cases e
     ·obtain rfl:=Zi e;refine⟨ht,fun hm=>hn ?_⟩;obtain⟨m,hm,rfl⟩:=List.mem_map.1 hm;exact List.any_eq_true.2 ⟨m,hm,by simp⟩
    ·exact h1 g (Zm _ hg)
  ·split at hs
   ·rename_i hw
    obtain rfl:=Zi hs;exact mH h1 (nW (dj h3 hw).2 h2)
   ·cases hs
 |mark x=>
  simp only[dK] at hs
  split at hs
  case isFalse=>cases hs
  rename_i hm
  try simp only at hm hs
  rcases BT hm with ⟨hx,hw⟩|⟨hx,hw⟩|⟨hx,hw⟩|⟨hx,hw⟩|⟨hx,hw⟩
  ·obtain⟨hd,hq⟩:=dj h3 hw;subst hd;have a0:=nW hq h2;rcases hx with rfl|rfl
   ·rw[if_pos rfl] at hs;obtain rfl:=Zi hs;refine⟨fun g hg=>?_,a0,rfl,_,_,rfl,rfl⟩;rcases List.mem_cons.1 hg with rfl|hg
    ·exact Fr.ok.new N false
    ·exact h1 g hg
   ·rw[if_neg (by decide),if_pos rfl] at hs;obtain rfl:=Zi hs;refine⟨fun g hg=>?_,a0,rfl,_,_,rfl,rfl,rfl⟩;rcases List.mem_cons.1 hg with rfl|hg
    ·exact Fr.ok.new N true
    ·exact h1 g hg
  ·subst hx;rw[if_neg (by decide),if_neg (by decide)] at hs
   cases frs with
   |nil=>cases hs
   |cons f fs=>
    simp only[true_or,if_true] at hs;obtain rfl:=Zi hs;exact mH (fun g hg=>h1 g (Zm _ hg)) h2
  ·subst hx;rw[if_neg (by decide),if_neg (by decide)] at hs
   cases frs with
   |nil=>cases hs
   |cons f fs=>
    simp only[or_true,if_true] at hs;obtain rfl:=Zi hs;exact mH (fun g hg=>h1 g (Zm _ hg)) h2
  ·obtain⟨rfl,rfl⟩:=And.intro hx hw;rw[if_neg (by decide),if_neg (by decide)] at hs;obtain⟨rfl,f,fs,rfl,h5,h6⟩:=h3
   try simp only at hs
   rw[if_neg (by decide),if_neg (by decide)] at hs;obtain rfl:=Zi hs;refine⟨h1,h2,rfl,fun g gs e=>?_⟩;injection e with e _
   subst e;simp[bZ,h5];exact h6
  ·subst hx;rw[if_neg (by decide),if_neg (by decide)] at hs
   cases frs with
   |nil=>cases hs
   |cons f fs=>
    try simp only at hs
    rw[if_neg (by decide)] at hs;simp only[if_true] at hs;obtain rfl:=Zi hs;rcases hw with rfl|rfl
    ·obtain⟨rfl,g,gs,e,h5⟩:=h3;injection e with e1 e2
     subst e1 e2;refine⟨h1,h2,?_⟩;simp only[h5];refine⟨rfl,fun g gs e=>?_⟩;injection e with e _
     subst e;simp[bZ,h5]
    ·obtain⟨rfl,g,gs,e,h5,h6⟩:=h3;injection e with e1 e2
     subst e1 e2;refine⟨h1,h2,?_⟩;simp only[h5];exact⟨rfl,_,_,rfl,h5,h6⟩
def Fr.cnt (f:Fr):Nat:=f.items.length+f.mems.length
def eb (frs:List Fr):Nat:=(frs.map fun f=>f.cnt+1).sum
theorem nA (frs:List Fr)(j:JV):eb (cV frs j).frs<=eb frs+1:=by
 cases frs with
 |nil=>simp[cV,eb]
 |cons f fs=>
  by_cases ho:f.obj=true
  ·rw[gG ho];simp[eb,Fr.cnt];omega
  ·rw[ff (by simpa using ho)];simp[eb,Fr.cnt];omega
theorem BQ {c c':dl}{t:sd}(hs:dK c t=some c'):eb c'.frs<=eb c.frs+1:=by
 obtain⟨frs,want,done⟩:=c
 cases t with
 |leaf j=>
  simp only[dK] at hs
  split at hs
  ·obtain rfl:=Zi hs;exact nA _ _
  ·cases hs
 |str s=>
  simp only[dK] at hs
  split at hs
  ·cases frs with
   |nil=>cases hs
   |cons f fs=>
    try simp only at hs
    split at hs
    ·cases hs
    ·obtain rfl:=Zi hs;simp[eb,Fr.cnt]
  ·split at hs
   ·obtain rfl:=Zi hs;exact nA _ _
   ·cases hs
 |mark x=>
  simp only[dK] at hs
  split at hs
  case isFalse=>cases hs
  by_cases e1:x=91
  ·rw[if_pos e1] at hs;obtain rfl:=Zi hs;simp[eb,Fr.cnt];omega
  rw[if_neg e1] at hs
  by_cases e2:x=123
  ·rw[if_pos e2] at hs;obtain rfl:=Zi hs;simp[eb,Fr.cnt];omega
  rw[if_neg e2] at hs
  cases frs with
  |nil=>cases hs
  |cons f fs=>
   try simp only at hs
   split at hs
   ·obtain rfl:=Zi hs;have:=nA fs (dO f);have e:eb (f::fs)=f.cnt+1+eb fs:=by simp[eb]
    rw[e];omega
   ·split at hs <;> (obtain rfl:=Zi hs;simp)
theorem ko (frs:List Fr):frs.length<=eb frs:=by
 induction frs with
 |nil=>simp[eb]
 |cons f fs ih=>simp[eb] at ih ⊢;omega
theorem mM (f:Fr)(fs:List Fr):f.items.length+f.mems.length+1+fs.length<=eb (f::fs):=by
 have:=ko fs;simp[eb,Fr.cnt] at this ⊢;omega
def Kp (T:TypeId->Prop)(w w':World):Prop:=w.heap.size<=w'.heap.size/\∀ (g:Nat) (o:Obj),w.heap[g]?=some o->(∀cs e z,o =.cells cs e z->¬T e)->w'.heap[g]?=some o
theorem Kp.refl (T:TypeId->Prop)(w:World):Kp T w w:=⟨Zb _,fun _ _ h _=>h⟩
theorem Kp.trans {a b c:World}(h:Kp T a b)(k:Kp T b c):Kp T a c:=⟨Zc h.1 k.1,fun g o hg ht=>k.2 g o (h.2 g o hg ht) ht⟩
theorem Kp.of_below (T:TypeId->Prop)(h:Below w.heap.size w w'):Kp T w w':=⟨h.size,fun g o hg _=>(h.block g (ae hg)).trans hg⟩
theorem Kp.of_chg (h:aZ F w w')(hF:∀g,F g->g<w.heap.size->∃cs e z,w.heap[g]?=some (.cells cs e z)/\T e):Kp T w w':=by
 refine⟨h.size,fun g o hg ht=>(h.block g (ae hg) fun hf=>?_).trans hg⟩;obtain⟨cs,e,z,h1,h2⟩:=hF g hf (ae hg);rw[h1] at hg;injection hg with hg
 exact ht cs e z hg.symm h2
theorem Kp.keeps (h:Kp T w w'):aG T w w':=⟨h.1,fun g cs e z hg ht=>h.2 g _ hg (fun cs' e' z' he=>by injection he with _ he;subst he;exact ht)⟩
theorem Kp.imp (h:Kp T w w')(hT:∀e,T e->U e):Kp U w w':=⟨h.1,fun g o hg ht=>h.2 g o hg (fun cs e z he a0=>ht cs e z he (hT e a0))⟩
theorem Kp.heap (h:Kp T w w'){z:Nat×Nat}(hg:w.heap[g]?=some (.cells cs e z))(he:¬T e):w'.heap[g]?=some (.cells cs e z):=h.keeps.2 g cs e z hg he
def bW (u:List Value):List Nat:=(u.getD 1 undef).ownBlock.toList++ (u.getD 2 undef).ownBlock.toList
def Pb (B:Nat)(bs:List Nat)(g:Nat):Prop:=B<=g/\g∉bs
structure JY (P:Nat->Prop) (B:Nat) (w:World) (u:List Value) (f:Fr) (iv mv:Value) (s:ByteArray) (us:List Value) (L:List (ByteArray×Value)):Prop where
 cells:u = [.int .i64 (if f.obj then 6 else 5),iv,mv,.string s,.bool f.name.isSome]
 name:∀t,f.name=some t->s=t
 items:w.ownsRow B 32 1 iv us.length us
 vals:bo (VW P w) us f.items
 mems:vD w B mv L
 names:L.map Prod.fst=f.mems.map Prod.fst
 mvals:bo (VW P w) (L.map Prod.snd) (f.mems.map Prod.snd)
 nilI:f.obj=true->iv =.slice none 0 0
 nilM:f.obj=false->mv =.slice none 0 0
def F6 (P:Nat->Prop)(B:Nat)(w:World)(u:List Value)(f:Fr):Prop:= ∃iv mv s us L,JY P B w u f iv mv s us L
theorem F6.len {u:List Value}(h:F6 P B w u f):u.length=5:=by obtain⟨_,_,_,_,_,h⟩:=h;rw[h.cells];rfl
def nM (P:Nat->Prop)(w:World)(dv:Value)(d:Option JV):Prop:=match d with|none=>dv =.nilIface|some j=>VW P w dv j
structure AG (B:Nat) (w:World) (xb:Nat) (frs:List Fr) (done:Option JV) (pv dv:Value) (us:List (List Value)) (bs:List Nat):Prop where
 row:w.heap[xb]?=some (.cells #[pv,dv] 167 (0,0))
 low:B<=xb
 parts:w.ownsRow B 213 5 pv frs.length us.reverse.flatten
 frames:bo (fun u f=>F6 (Pb B bs) B w u f) us frs
 blocks:us.flatMap bW=bs
 nodup:bs.Nodup
 done:nM (Pb B bs) w dv done
def fi (B:Nat)(w:World)(xb:Nat)(frs:List Fr)(done:Option JV)(bs:List Nat):Prop:= ∃pv dv us,AG B w xb frs done pv dv us bs
def Mv (top:List Nat)(w w':World):Prop:=w.heap.size<=w'.heap.size/\∀ (g:Nat) (cs:Array Value) (e:TypeId) (z:Nat×Nat),w.heap[g]?=some (.cells cs e z)->TV e->g∉top->w'.heap[g]?=some (.cells cs e z)
theorem Mv.of_below {top:List Nat}(h:Below w.heap.size w w'):Mv top w w':=⟨h.size,fun g cs e z hg _ _=>(h.block g (ae hg)).trans hg⟩
theorem Mv.of_kp {top:List Nat}(h:Kp T w w')(hT:∀e,TV e->¬T e):Mv top w w':=⟨h.1,fun g cs e z hg he _=>h.heap hg (hT e he)⟩
theorem Mv.trans {t:List Nat}{a b c:World}(h:Mv t a b)(k:Mv t b c):Mv t a c:=⟨Zc h.1 k.1,fun g cs e z hg he ht=>k.2 g cs e z (h.2 g cs e z hg he ht) he ht⟩
theorem Mv.of_chg {top:List Nat}(h:aZ F w w')(hF:∀g,F g->g<w.heap.size->g∈top\/∃cs e z,w.heap[g]?=some (.cells cs e z)/\¬TV e):Mv top w w':=by
 refine⟨h.size,fun g cs e z hg he ht=>(h.block g (ae hg) fun hf=>?_).trans hg⟩;rcases hF g hf (ae hg) with h1|⟨cs',e',z',h1,h2⟩
 ·exact ht h1
 ·rw[h1] at hg;injection hg with hg
  injection hg with _ hg _
  subst hg;exact h2 he
theorem VW.move {bs top:List Nat}(h:VW (Pb B bs) w v j)(hm:Mv top w w')(ht:∀g∈top,g∈bs)(a0:∀g∈bs',g∈bs\/w.heap.size<=g):VW (Pb B bs') w' v j:=
 h.stay fun g o ⟨h1,h2⟩ hg ⟨cs,e,z,ho,he⟩=>by
  subst ho;refine⟨⟨h1,fun hb=>?_⟩,hm.2 g cs e z hg he (fun h=>h2 (ht g h))⟩;rcases a0 g hb with h3|h3
  ·exact h2 h3
  ·have:=ae hg;omega
theorem kK {k:Nat}{top:List Nat}{xs:List Value}(h:w.ownsRow B e k v n xs)(hm:Mv top w w')(he:TV e)(ht:∀g,v.ownBlock=some g->g∉top):w'.ownsRow B e k v n xs:=by
 refine bw h fun b hb=>?_
 obtain⟨_,cur,hg⟩:=aj h hb;rw[hg];exact hm.2 b cur e _ hg he (ht b hb)
theorem F6.move {bs top:List Nat}{u:List Value}(h:F6 (Pb B bs) B w u f)(hm:Mv top w w')(ht:∀g∈top,g∈bs)(a0:∀g∈bs',g∈bs\/w.heap.size<=g)(hu:∀g∈bW u,g∉top):F6 (Pb B bs') B w' u f:=by
 obtain⟨iv,mv,s,us,L,h1,h2,h3,h4,h5,h6,h7,h8,h9⟩:=h;subst h1;refine⟨iv,mv,s,us,L,rfl,h2,kK h3 hm (.inr (.inr (.inl rfl))) (fun g e=>hu g ?_),h4.mono fun _ _ h=>h.move hm ht a0,kK h5 hm (.inr (.inr (.inr rfl))) (fun g e=>hu g ?_),h6,h7.mono fun _ _ h=>h.move hm ht a0,h8,h9⟩
 ·simp[bW,e]
 ·simp[bW,e]
theorem nM.move {bs top:List Nat}{d:Option JV}(h:nM (Pb B bs) w dv d)(hm:Mv top w w')(ht:∀g∈top,g∈bs)(a0:∀g∈bs',g∈bs\/w.heap.size<=g):nM (Pb B bs') w' dv d:=by
 cases d with
 |none=>exact h
 |some j=>exact VW.move h hm ht a0
def TB (e:TypeId):Prop:=TV e\/e=167\/e=213
theorem fi.kp {done:Option JV}{bs:List Nat}(h:fi B w xb frs done bs)(hk:Kp T w w')(hT:∀e,TB e->¬T e):fi B w' xb frs done bs:=by
 obtain⟨pv,dv,us,h1,h2,h3,h4,h5,h6,h7⟩:=h;have hm:Mv [] w w':=Mv.of_kp hk (fun e he=>hT e (.inl he));have a0:∀g∈bs,g∈bs\/w.heap.size<=g:=fun g h=>.inl h
 exact⟨pv,dv,us,hk.heap h1 (hT _ (.inr (.inl rfl))),h2,al h3 hk.keeps (hT _ (.inr (.inr rfl))),h4.mono fun _ _ h=>h.move hm (by simp) a0 (by simp),h5,h6,h7.move hm (by simp) a0⟩
theorem fi.below {done:Option JV}{bs:List Nat}(h:fi B w xb frs done bs)(hb:Below w.heap.size w w'):fi B w' xb frs done bs:=h.kp (T:=fun _=>False) (Kp.of_below _ hb) (fun _ _ h=>h)
theorem DK:dq 165 213 (.agg #[.int .i64 0,.slice none 0 0,.slice none 0 0,.string ByteArray.empty,.bool false]) 5 80:=⟨Tryz.underlying165,by kernel_rfl,rfl,by decide⟩
structure IV (w:World) (pv:Value) (m:Nat) (u:List Value) (pb q:Nat):Prop where
 pv:pv =.slice (some ⟨pb,0,none⟩) (m+1) q
 cell:∀i v,u[i]?=some v->w.cell? ⟨pb,m*5+i,none⟩=some v
 typed:∃cur,w.heap[pb]?=some (.cells cur 213 (0,0))
 max:m+1<=maxLen
 cap:m+1<=q
theorem ek {u:List Value}{us:List (List Value)}(h:w.ownsRow B 213 5 pv (us.length+1) (u::us).reverse.flatten)(hl:∀x∈u::us,x.length=5):∃pb q,B<=pb/\IV w pv us.length u pb q:=by
 rcases bN h with ⟨_,e,_⟩|⟨pb,q,rfl,hb,hc,hm⟩
 ·omega
 ·obtain⟨_,cur,a0⟩:=aj h rfl;refine⟨pb,q,hb,rfl,fun i v hv=>?_,⟨cur,a0⟩,hm,hc⟩;have hi:=(List.getElem?_eq_some_iff.1 hv).1;have h5:=hl u (by simp);rw[World.ownsRow.cellAt h (us.length*5+i) (by omega),uG (k:=5) (fun x hx=>hl x (List.mem_reverse.1 hx)) us.length i (by omega)];rw[List.reverse_cons,List.getElem?_append_right (by simp),List.length_reverse,Nat.sub_self];simpa using hv
theorem Ao {u:List Value}{us:List (List Value)}(h:w.ownsRow B 213 5 (.slice (some ⟨pb,0,none⟩) (us.length+1) q) (us.length+1) (u::us).reverse.flatten)(hl:∀x∈u::us,x.length=5)(hu:u'.length=5)
  (hw:∃cur:Array Value,w'.heap[pb]?=some (.cells cur 213 (0,0))/\∀old,w.heap[pb]?=some (.cells old 213 (0,0))->cur.size=old.size/\(∀i,i<us.length*5->cur[i]?=old[i]?)/\∀i,i<5->cur[us.length*5+i]?=u'[i]?) :
  w'.ownsRow B 213 5 (.slice (some ⟨pb,0,none⟩) (us.length+1) q) (us.length+1) (u'::us).reverse.flatten:=by
 obtain⟨hx,⟨e1,h0⟩|⟨g,cap,old,e1,hb,hg,h2,h3,h4,h5⟩⟩:=h
 ·cases e1
 obtain⟨e2,-,rfl⟩:=Value.slice.inj e1;obtain rfl:pb=g:=by injection e2 with e2;injection e2
 obtain⟨cur,a0,a1⟩:=hw;obtain⟨c1,c2,c3⟩:=a1 old hg;have hlen:∀ (L:List (List Value)),(∀x∈L,x.length=5)->L.flatten.length=L.length*5:=fun L=>by
  induction L with
  |nil=>intro _;rfl
  |cons a L ih=>intro h;rw[List.flatten_cons,List.length_append,ih (fun x hx=>h x (Zm _ hx)),h a (by simp),List.length_cons];omega
 have a3:∀x∈us.reverse,x.length=5:=fun x hx=>hl x (Zm _ (List.mem_reverse.1 hx))
 have h6:=hlen us.reverse a3;rw[List.length_reverse] at h6;have a2:((u'::us).reverse.flatten).length= (us.length+1)*5:=by
  rw[List.reverse_cons,List.flatten_append,List.length_append,h6];simp[hu];omega
 refine⟨a2,.inr ⟨pb,q,cur,rfl,hb,a0,h2,h3,by rw[c1];exact h4,?_⟩⟩;apply List.ext_getElem?;intro i;rw[List.reverse_cons,List.flatten_append]
 by_cases hi:i< (us.length+1)*5
 ·rw[List.getElem?_take_of_lt hi,Array.getElem?_toList]
  by_cases hi2:i<us.length*5
  ·rw[c2 i hi2,List.getElem?_append_left (by omega)];have:=congrArg (·[i]?) h5;simp only[List.getElem?_take_of_lt hi,Array.getElem?_toList] at this;rw[this,List.reverse_cons,List.flatten_append,List.getElem?_append_left (by omega)]
  ·rw[List.getElem?_append_right (by omega),h6];have:=c3 (i - us.length*5) (by omega);rw[show us.length*5+ (i - us.length*5)=i by omega] at this;rw[this];simp
 ·rw[List.getElem?_eq_none (by simp;omega),List.getElem?_eq_none];rw[<-List.flatten_append,<-List.reverse_cons,a2];omega
theorem JP {u:List Value}{j:Nat}(v:Value)(hu:u.length=5)(hj:j<5):(u.set j v)[i]?=if i=j then some v else u[i]?:=by
 rw[List.getElem?_set]
 by_cases h:j=i
 ·subst h;simp[hu,hj]
 ·rw[if_neg h,if_neg (fun e=>h e.symm)]
theorem eM {u:List Value}{us:List (List Value)}(h:w.ownsRow B 213 5 (.slice (some ⟨pb,0,none⟩) (us.length+1) q) (us.length+1) (u::us).reverse.flatten)(hl:∀x∈u::us,x.length=5){j:Nat}(hj:j<5)(v:Value) :
  (w.setCell ⟨pb,us.length*5+j,none⟩ v).ownsRow B 213 5 (.slice (some ⟨pb,0,none⟩) (us.length+1) q) (us.length+1) (u.set j v::us).reverse.flatten:=by
 have hu:=hl u (by simp);obtain⟨pb',q',a1,hT⟩:=ek h hl;obtain⟨e,-,-⟩:=Value.slice.inj hT.pv;obtain rfl:pb=pb':=by injection e with e;injection e
 obtain⟨cur,a0⟩:=hT.typed;have hc:∀i,i<5->cur[us.length*5+i]?=u[i]?:=by
  intro i hi;obtain⟨x,hx⟩:∃x,u[i]?=some x:=⟨_,Zd (by omega)⟩;have:=hT.cell i x hx;unfold World.cell? at this;simp only[a0] at this;rw[hx];simpa using this
 refine Ao h hl (by simp[hu]) ⟨cur.setIfInBounds (us.length*5+j) v,au a0 _ _,fun old ho=>?_⟩;rw[a0] at ho;obtain rfl:cur=old:=by injection ho with ho;injection ho
 refine⟨by simp,fun i hi=>by rw[Array.getElem?_setIfInBounds_ne (by omega)],fun i hi=>?_⟩;rw[JP v hu hj]
 by_cases h:i=j
 ·subst h;have h1:=hc i hi;have:us.length*5+i<cur.size:=by
   rcases Nat.lt_or_ge (us.length*5+i) cur.size with h2|h2
   ·exact h2
   ·rw[Array.getElem?_eq_none h2,Zd (by omega)] at h1;cases h1
  rw[if_pos rfl,Array.getElem?_setIfInBounds_self_of_lt this]
 ·rw[if_neg h,Array.getElem?_setIfInBounds_ne (by omega)];exact hc i hi
