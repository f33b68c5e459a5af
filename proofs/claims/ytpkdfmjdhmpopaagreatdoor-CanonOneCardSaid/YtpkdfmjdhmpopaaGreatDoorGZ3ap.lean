import Derived.Test.YtpkdfmjdhmpopaaGreatDoorGZ3ao
set_option linter.unusedVariables false
set_option linter.unusedSimpArgs false
set_option maxHeartbeats 64000000
set_option maxRecDepth 100000
namespace Go.Proofs.YtpkdfmjdhmpopaaGreatDoor
open Go.RowKit
variable {s : ByteArray} {names : List ByteArray} {ts : List JV} {so : List Nat} {us vs : List Value} {B N a base g i k n q q6 : Nat} {A A6 : Option Addr} {e t : TypeId} {v vl vn z : Value} {W W' w wx : World}
def mC (names:List ByteArray)(k:Nat):ByteArray:=names.getD k ⟨#[]⟩
theorem fI (h:names[k]?=some s):mC names k=s:=by unfold mC;rw [List.getD_eq_getElem?_getD,h];rfl
def EG (w:World)(names:List ByteArray)(s6 s7:Value)(wr:World):Prop:= ∃ (i:Nat) (so:List Nat) (A:Option Addr) (n q:Nat),i<=names.length/\s7 = .int .i64 i/\s6 = .slice A n q/\cB wr w.heap.size s6 so/\n=i/\so.Perm (List.range i)/\Below w.heap.size w wr/\(so.map (mC names)).Pairwise fM
def GF (w1:World)(names:List ByteArray)(so:List Nat)(i:Nat)(s8:Value)(wr:World):Prop:= ∃a:Nat,a<=so.length/\s8 = .int .i64 a/\Below w1.heap.size w1 wr/\∀j x,j<a->so[j]?=some x->fM (mC names x) (mC names i)
def FF (w1:World)(names:List ByteArray)(so:List Nat)(i:Nat)(s8:Value)(wr:World):Prop:= ∃a:Nat,a<=so.length/\s8 = .int .i64 a/\Below w1.heap.size w1 wr/\(∀j x,j<a->so[j]?=some x->fM (mC names x) (mC names i))/\∀x,so[a]?=some x->¬fM (mC names x) (mC names i)
def Be (w3:World)(names:List ByteArray)(so:List Nat)(i a:Nat)(s8:Value)(wx:World):Prop:= ∃b:Bool,s8 = .bool b/\Below w3.heap.size w3 wx/\(b=true->¬names.Nodup)/\(b=false->∀x,so[a]?=some x->fM (mC names i) (mC names x))
def Im (w:World)(names:List ByteArray)(ts:List JV)(e:Ending)(w':World):Prop:= ∃ (A:Option Addr) (n q:Nat) (ok:Bool),e = .returned (.tuple #[.slice A n q, .bool ok])/\Below w.heap.size w w'/\(ok=true↔names.Nodup)/\(ok=false->n=0)/\
 (ok=true->∃ps,lh names ts ps/\bG (w.heap.size<= ·) w' w.heap.size (.slice A n q) (JV.flat 0 (.mk 6 false es ll (ps.map Prod.fst) (ps.map Prod.snd))))
theorem sT {t:ByteArray}(hs:iI s)(ht:iI t):jY (oN s) (oN t)=true↔fM s t:=by
 unfold jY fM;rw [Bq hs.1,Bq ht.1];simp
theorem AB (h:w.ownsRow base e 1 (.slice A n q) n (so.map bX))(ha:a<=n):w.ownsRow base e 1 (.slice A a q) a ((so.take a).map bX):=by
 have hl:so.length=n:=by have:=h.1;simpa using this
 rcases h.2 with ⟨e,h0⟩ | ⟨g,cap,cur,e,hb,hg,h1,h2,h3,h4⟩
 ·injection e with e1 e2 e3
  subst e1 e3;obtain rfl:a=0:=by omega
  exact⟨by simp, .inl ⟨rfl,rfl⟩⟩
 ·injection e with e1 _ e3
  subst e1 e3;refine⟨by simp;omega, .inr ⟨g,q,cur,rfl,hb,hg,by omega,h2,h3, ?_⟩⟩;rw [Nat.mul_one] at h4 ⊢;rw [List.map_take,<- h4,List.take_take,Nat.min_eq_left ha]
theorem mQ (h:W.ownsRow B 9 k v n us)(hg:W.grownBy W' v.ownBlock):aP (fun e=>e=9) W W':=
 aP.of_grown hg (fun g e cs t z hh=>by obtain⟨cs',z',h'⟩:=cO h g e;rw [h'] at hh;injection hh with hh;injection hh with _ hh;exact hh.symm)
theorem pR (h:W.ownsRow B 28 k v n us)(hg:W.grownBy W' v.ownBlock):aP (fun e=>e=28) W W':=
 aP.of_grown hg (fun g e cs t z hh=>by obtain⟨cs',z',h'⟩:=cO h g e;rw [h'] at hh;injection hh with hh;injection hh with _ hh;exact hh.symm)
def F4 (vs:List Value)(k:Nat):Value:=vs.getD k undef
def GJ (w:World)(names:List ByteArray)(vs:List Value)(so:List Nat)(A6:Option Addr)(q6:Nat)(s10 s11 s12:Value)(wx:World):Prop:= ∃ (k:Nat) (A10:Option Addr) (q10:Nat) (A11:Option Addr) (q11:Nat),k<=names.length/\s12 = .int .i64 k/\s10 = .slice A10 k q10/\s11 = .slice A11 k q11/\
 wx.ownsRow w.heap.size 9 1 (.slice A10 k q10) k (((so.take k).map (mC names)).map dq)/\wx.ownsRow w.heap.size 28 1 (.slice A11 k q11) k ((so.take k).map (F4 vs))/\wx.ownsRow w.heap.size 3 1 (.slice A6 names.length q6) names.length (so.map bX)/\Below w.heap.size w wx
theorem vA (h:wx.ownsRow w.heap.size 3 1 (.slice A6 names.length q6) names.length (so.map bX))(hb:Below w.heap.size w wx):GJ w names vs so A6 q6 (.slice none 0 0) (.slice none 0 0) (.int .i64 0) wx:=
 ⟨0,none,0,none,0,Zj _,rfl,rfl,rfl,⟨by simp, .inl ⟨rfl,rfl⟩⟩,⟨by simp, .inl ⟨rfl,rfl⟩⟩,h,hb⟩
theorem sy {s:Value}(h:vs[k]?=some s):F4 vs k=s:=by unfold F4;rw [List.getD_eq_getElem?_getD,h];rfl
theorem D4 (hlen:names.length=ts.length)(a1:vs.length=ts.length)(hp:so.Perm (List.range names.length))(hr: (so.map (mC names)).Pairwise fM)(hv:bB (fun v ns=>eu w 0 v ns) vs (ts.map (JV.flat 0))) :
  lh names ts (so.map (eY names ts))/\(so.map (eY names ts)).map Prod.fst=so.map (mC names)/\bB (fun v ns=>eu w 0 v ns) (so.map (F4 vs)) (((so.map (eY names ts)).map Prod.snd).map (JV.flat 0)):=by
 have hm:∀k∈so,k<names.length:=fun k hk=>by have:=hp.mem_iff.1 hk;simpa using this
 have hf: (so.map (eY names ts)).map Prod.fst=so.map (mC names):=by
  rw [List.map_map];exact List.map_congr_left (fun k hk=>zW hlen (hm k hk))
 refine⟨⟨we (by rw [List.length_zip,<- hlen,Nat.min_self];exact hp),by unfold dc;rw [hf];exact hr⟩,hf,by simp,fun i a b ha hb=> ?_⟩;rw [List.getElem?_map] at ha;rw [List.getElem?_map,List.getElem?_map,List.getElem?_map] at hb
 cases hk:so[i]? with
 | none=>rw [hk] at ha;simp at ha
 | some k=>
  rw [hk] at ha hb;have hlt:=hm k (Zk hk);have ht:=Zc (l:=ts) (i:=k) (by omega);have a0:=Zc (l:=vs) (i:=k) (by omega);simp only [Option.map_some,Option.some.injEq] at ha hb;rw [Bw hlen ht] at hb;rw [sy a0] at ha;subst ha hb;exact hv.2 k _ _ a0 (by rw [List.getElem?_map,ht];rfl)
theorem hnum (i:Nat): ((i+1:Nat):Int)= (i:Int)+1:=by omega
theorem ox {w7:World}{s2:List Nat}(hlt:i<names.length)(hp:so.Perm (List.range i))(ha:a<=i)(a1:so.drop a=s2)(hN:N=a+1+s2.length)
  (a0:w7.ownsRow w.heap.size 3 1 v N ((so.take a).map bX ++ [bX i]++s2.map bX)) (hb:Below w.heap.size w w7) (hr: (so.map (mC names)).Pairwise fM) (a3:∀j x,j<a->so[j]?=some x->fM (mC names x) (mC names i)) (a2:∀x,so[a]?=some x->fM (mC names i) (mC names x)) :
  EG w names v (.int .i64 ((i+1:Nat):Int)) w7:=by
 subst a1;have hl:so.length=i:=by have:=hp.length_eq;simpa using this
 have a4:N=i+1:=by rw [hN,List.length_drop];omega
 subst a4;obtain⟨A,q,rfl, -⟩:=ag a0;refine⟨i+1,so.take a ++ [i]++so.drop a,A,i+1,q,by omega,rfl,rfl, ?_,rfl,uF a hp,hb,rO hr a3 a2⟩;unfold cB;have: (so.take a ++ [i]++so.drop a).length=i+1:=by simp;omega
 rw [this,List.map_append,List.map_append];exact a0
theorem mf (E:dM t e z k B)(w:World)(base:Nat)(ty:TypeId)(v:Value)(n:Nat)(xs:List Value)(a0:w.ownsRow base e k v n xs)(c:Nat) :
  (Builtin.append_ #[t,t] ty #[v, .slice none 0 c]).run Tryz.prog w = .ok v w:=by
 obtain⟨i0,hi,a3,a2,a1⟩:=info_parts E.hi;rcases a0.2 with ⟨rfl,rfl⟩ | ⟨g,cap,cur,rfl,_,_,hnc,_⟩
 ·simp [Builtin.append_,run_underlying E.ht,sizeOf,typeInfo,hi,Builtin.lenOf,Builtin.firstCells]
 ·simp [Builtin.append_,run_underlying E.ht,sizeOf,typeInfo,hi,Builtin.lenOf,Builtin.firstCells,hnc,storeCells]
theorem kg (E:dM t e z k B){ops:Array Oper}{rest:List Oper}{o:Oper}{a:Act}{Q:Exit->Act->World->Prop}(a1:o.guard=none)(s x:Operand)
  (ho:o.op = .call {callee:= .builtin .append,args:= #[s,x],argTypes:= #[t,t]}) (base:Nat) (v:Value) (n:Nat) (us:List Value) (hs:a.eval s=v) (a0:w.ownsRow base e k v n us) (c:Nat) (hx:a.eval x = .slice none 0 c)
  (h:wpList Tryz.prog ops Q rest (a.put o.dst v) w):wpList Tryz.prog ops Q (o::rest) a w:=
 wpList_plain a1 fun _ hK=>by
  unfold Oper.wp execOp;simp only [ho,resolve,invoke,builtin,Sem.run_bind,Sem.run_pure,Result.andThen_ok,List.map_toArray,List.map_cons,List.map_nil,hs,hx,mf E w base _ v n us a0 c];exact hK _ _ h
theorem oJ (A:Option Addr)(a b q:Nat): (Value.slice A a q).ownBlock= (Value.slice A b q).ownBlock:=by cases A <;> rfl
theorem pM {xs:List Value}(h:w.ownsRow base e 1 (.slice (some ⟨g,0,none⟩) n q) n xs):∀j u,xs[j]?=some u->w.cell? ⟨g,j,none⟩=some u:=fun j u hu=>by
 have hl:xs.length=n:=by have:=h.1;simpa using this
 have:=(List.getElem?_eq_some_iff.1 hu).1;rw [bg h rfl j (by omega),hu]
theorem tG (hn:Sl w vn (names.map dq))(hl:ir w vl (ts.map (JV.flat 0)))(hlen:names.length=ts.length)(h8:∀s∈names,iI s)(hnl:names.length<=1000000)(r4:JV.sizes ts<=1000000)
  (hkl:∀t∈ts,∀x∈t.flat 0,x.names.length<=1000000/\∀q∈x.kids,q<=1000000) :
  Calls Tryz.prog 161 #[vn,vl] w (Im w names ts):=by
 obtain⟨hm,A,cap,rfl,i3,hA⟩:=id hn;rw [List.length_map] at hm i3 hA ⊢;obtain⟨vs,k5,h4⟩:=id hl;obtain⟨m9,A2,cap2,rfl,e0,i0⟩:=id k5;have a6:vs.length=ts.length:=by have:=h4.1;simpa using this
 rw [a6] at m9 e0 i0 ⊢;have HA:=Qa hA;have q0:=Qa i0;have Hn:=Qa hn;have Hl:=Qa hl;have j1:=Qa h4;have l4:=Qa a6;have a4:=Qa hlen;have H8:=Qa h8;have p4:=Qa hkl;have t0:ts.length<=1000000:=by omega
 clear hn hl hA i0 k5 h4 a6 hlen h8 hkl;go_enter Tryz.func161,Tryz.ntmps161;go_wp2_with fail
 go_loopw [6,7,8,9] (fun s6 s7 _ _ wr=>EG w names s6 s7 wr) (fun _ v _ _ _=>names.length - (intOf v).toNat)
 case atStart=>exact⟨0, [],none,0,0,Zj _,rfl,rfl,cB.nil _ _,rfl,by simp,Zd _ _,by simp⟩
 case round=>
  obtain⟨i,so,A6,n6,q6,hi,rfl,rfl,ho,n8,hp,hb,hr⟩:=hrel;subst n8;have b7:so.length=n6:=by have:=hp.length_eq;simpa using this
  unfold cB at ho;rw [b7] at ho;have Hp:=Qa hp;have Ho:=Qa ho;have Hb:=Qa hb;have Hr:=Qa hr;have Hsol:=Qa b7;have s5:=hb.size;obtain⟨_,cq,eq6,t6,s4,k3⟩:=ag ho;injection eq6 with e1 e2 e3
  subst e1 e3;have k2:=Qa k3;clear hp ho hb hr b7 k3 e2
  by_cases hlt:n6<names.length
  ·obtain⟨gn,on,rfl,hcn⟩:=HA.out (by omega)
   obtain⟨si,m3⟩:∃s,names[n6]?=some s:=⟨_,Zc hlt⟩;have b5:=Qa m3;have f1:=Qa hcn;have s0: (n6:Int)<names.length:=by omega
   clear m3 hcn;obtain⟨wo,rfl⟩:∃wo:World,wo=wr:=⟨_,rfl⟩;go_upto_block 2 with fail
   go_cut [8] (fun s8 wx=>FF wo names so n6 s8 wx)
   case first=>
    go_wp2_with fail
    go_loopw [8] (fun s8 wx=>GF wo names so n6 s8 wx) (fun v _=>n6 - (intOf v).toNat)
    case atStart=>exact⟨0,Zj _,rfl,Zd _ _,fun j x h=>by omega⟩
    case round=>
     obtain⟨a,ha,rfl,hb,d4⟩:=hrel;have Hbi:=Qa hb;have Hlo:=Qa d4;rw [Hsol.out] at ha;clear hb d4
     by_cases hat:a<n6
     ·obtain⟨z,hz⟩:∃z,so[a]?=some z:=⟨_,Zc (by rw [Hsol.out];exact hat)⟩
      obtain⟨g6,rfl⟩:=k2.out (by omega);have g4:z<n6:=by have:=Hp.out.mem_iff.1 (Zk hz);simpa using this
      obtain⟨sz,a0⟩:∃s,names[z]?=some s:=⟨_,Zc (by omega)⟩;have c1:=bg (Ho.out.below' Hbi.out) rfl a (by omega);rw [List.getElem?_map,hz] at c1;simp only [Option.map_some,bX] at c1;have c0:=Hb.out.trans (Hbi.out.mono Hb.out.size);have c2:=Zf c0 (f1.out z (dq sz) (by rw [List.getElem?_map,a0];rfl));have c3:=Zf c0 (f1.out n6 (dq si) (by rw [List.getElem?_map,b5.out];rfl));unfold dq at c2 c3;have f3:=H8.out sz (Zk a0);have g0:=H8.out si (Zk b5.out);have r0:=f3.2;have e5:=g0.2;have Hz:=Qa hz;have a9:=Qa a0;clear hz a0;have i2: (a:Int)<n6:=by omega
      have r7:z<names.length:=by omega
      go_wp2_with fail;refine aW (fun w'=>w'.cell? ⟨g6,a,none⟩=some (.int .i64 z)/\w'.cell? ⟨gn,on+z,none⟩=some (.string sz)/\w'.cell? ⟨gn,on+n6,none⟩=some (.string si)) (⟨c1,c2,c3⟩) fun a1=> ?_
      refine tH 0 a1 ?_;refine tH 1 a1 ?_;refine tH 2 a1 ?_;refine tH 3 a1 ?_;refine tH 4 a1 ?_;refine tH 5 a1 ?_
      try simp only [Act.put,jP,jQ,jR]
      refine tH 6 a1 ?_;refine tH 7 a1 ?_;refine tH 8 a1 ?_;refine tH 9 a1 ?_;refine tH 10 a1 ?_;refine tH 11 a1 ?_
      try simp only [Act.put,jP,jQ,jR]
      refine tH 12 a1 ?_;refine tH 13 a1 ?_;refine tH 14 a1 ?_;refine tH 15 a1 ?_
      try simp only [Act.put,jP,jQ,jR]
      refine rH 16 fun K hK=> ?_
      go_simp;refine(qY _ sz si (Zb r0 (by decide)) (Zb e5 (by decide))).mono ?_;rintro e w9 ⟨rfl,b0⟩;have b2:=Qa (Hbi.out.trans (((Zd wr.heap.size wr).drew.trans b0).mono Hbi.out.size));go_simp;refine hK.out _ _ (⟨Zf b0 a1.1,Zf b0 a1.2.1,Zf b0 a1.2.2⟩) (fun a1=> ?_);clear hK K
      try simp only [Act.put,jP,jQ,jR]
      refine tH 17 a1 ?_
      try simp only [Act.put,jP,jQ,jR]
      refine wpAnyH_done (by kernel_rfl) (NoPanic.normal ?_) _
      by_cases hah:jY (oN sz) (oN si)=true
      ·rw [hah]
       have Hlt:=Qa ((sT f3 g0).1 hah);go_wp2_with fail;refine⟨⟨a+1,by rw [Hsol.out];omega,by go_num,b2.out,fun j x hj hx=> ?_⟩,by simp [intOf];omega⟩
       by_cases hja:j=a
       ·subst hja
        have:=hx.symm.trans Hz.out;injection this with this
        subst this;rw [fI a9.out,fI b5.out];exact Hlt.out
       ·exact Hlo.out j x (by omega) hx
      ·have h7:jY (oN sz) (oN si)=false:=by simpa using hah
       have q2:=Qa (fun h=>hah ((sT f3 g0).2 h));rw [h7];clear hah;go_wp2_with fail;go_meet
       case rel=>
        refine⟨a,by rw [Hsol.out];omega,rfl,b2.out,Hlo.out,fun x hx=> ?_⟩;have:=hx.symm.trans Hz.out;injection this with this
        subst this;rw [fI a9.out,fI b5.out];exact q2.out
     ·have i2:¬ (a:Int)<n6:=by omega
      go_wp2_with fail;go_quiet (fail);go_wp2_with fail;go_meet
      case rel=>exact⟨a,by rw [Hsol.out];omega,rfl,aD Hbi.out _,Hlo.out,fun x hx=>by have:=(List.getElem?_eq_some_iff.1 hx).1;rw [Hsol.out] at this;omega⟩
   case rest=>
    obtain⟨a,ha,rfl,k9,d4,l3⟩:=hcut;rw [Hsol.out] at ha;have Hbi:=Qa k9;have Hlo:=Qa d4;have n4:=Qa l3;clear k9 d4 l3;have c0:=Hb.out.trans (Hbi.out.mono Hb.out.size);have c3:=Zf c0 (f1.out n6 (dq si) (by rw [List.getElem?_map,b5.out];rfl));unfold dq at c3;have i4:=Qa c0;clear c0;go_upto_if 56 with fail
    obtain⟨w3,rfl⟩:∃w3:World,w3=wc:=⟨_,rfl⟩;go_cut [56] (fun s56 wx=>Be w3 names so n6 a s56 wx)
    case first=>
     by_cases hat:a<n6
     ·obtain⟨z,hz⟩:∃z,so[a]?=some z:=⟨_,Zc (by rw [Hsol.out];exact hat)⟩
      obtain⟨g6,rfl⟩:=k2.out (by omega);have g4:z<n6:=by have:=Hp.out.mem_iff.1 (Zk hz);simpa using this
      obtain⟨sz,a0⟩:∃s,names[z]?=some s:=⟨_,Zc (by omega)⟩;have c1:=bg (Ho.out.below' Hbi.out) rfl a (by omega);rw [List.getElem?_map,hz] at c1;simp only [Option.map_some,bX] at c1;have c2:=Zf i4.out (f1.out z (dq sz) (by rw [List.getElem?_map,a0];rfl));unfold dq at c2;have f3:=H8.out sz (Zk a0);have g0:=H8.out si (Zk b5.out);have Hz:=Qa hz;have a9:=Qa a0;clear hz a0;have i2: (a:Int)<n6:=by omega
      have r7:z<names.length:=by omega
      by_cases he:sz=si
      ·have n2: (sz.toList==si.toList)=true:=by rw [jv];simp [he]
       have a7:¬names.Nodup:=fun hd=>by
        have h1:=a9.out;rw [he] at h1;have:=zi hd h1 b5.out;omega
       have Hdup:=Qa a7;clear he a7;go_wp2_with fail;go_quiet (fail);go_wp2_with fail;go_meet
       case rel=>exact⟨_,rfl,aD (Zd _ _) _,(fun _=>Hdup.out),(fun h=>by cases h)⟩
      ·have n2: (sz.toList==si.toList)=false:=by rw [jv];simp [he]
       have Hlt:Hid (∀x,so[a]?=some x->fM (mC names n6) (mC names x)):=Qa (fun x hx=>by
        have h0:=n4.out x hx;have:=hx.symm.trans Hz.out;injection this with this
        subst this;rw [fI a9.out,fI b5.out] at h0 ⊢;exact js h0 he)
       clear he;go_wp2_with fail;go_quiet (fail);go_wp2_with fail;go_meet
       case rel=>exact⟨_,rfl,aD (Zd _ _) _,(fun h=>by cases h),(fun _=>Hlt.out)⟩
     ·have i2:¬ (a:Int)<n6:=by omega
      go_wp2_with fail;go_quiet (fail);go_wp2_with fail;go_meet
      case rel=>exact⟨_,rfl,aD (Zd _ _) _,(fun h=>by cases h),fun _ x hx=>by have:=(List.getElem?_eq_some_iff.1 hx).1;rw [Hsol.out] at this;omega⟩
    case rest=>
     obtain⟨b,rfl,g8,a7,d6⟩:=hcut;have Hdup:=Qa a7;have Hlt:=Qa d6;have l0:=Qa g8;have a2:=Qa (i4.out.trans (g8.mono i4.out.size));clear d6 g8 a7
     cases b
     case true=>
      have Hd:=Qa (Hdup.out rfl);clear Hdup;go_wp2_with fail;go_ret2;exact⟨none,0,0,false,rfl,a2.out,⟨(fun h=>by cases h),(fun h=>absurd h Hd.out)⟩,(fun _=>rfl),(fun h=>by cases h)⟩
     have Hlt:=Qa (Hlt.out rfl);obtain⟨w4,l5⟩:∃x,wc=x:=⟨_,rfl⟩;rw [l5] at l0 a2 ⊢;clear l5 Hdup c3;have f2:=Qa ((Ho.out.below' Hbi.out).below' l0.out);have b1: (so.drop a).length=n6 - a:=by rw [List.length_drop,Hsol.out]
     have g5:∀A' c',(a=n6\/∃g6,A6=some ⟨g6,0,none⟩/\A'=some ⟨g6,a,none⟩/\c'=q6 - a)->n6 - a<=c'\/a=n6->Sl w4 (.slice A' (n6 - a) c') ((so.drop a).map bX):=by
      rintro A' c' h hc;refine⟨by rw [List.length_map,b1];unfold maxLen at s4;omega,A',c',by rw [List.length_map,b1],by rw [List.length_map,b1];omega,fun h0=> ?_⟩;rw [List.length_map,b1] at h0;rcases h with h | ⟨g6,rfl,rfl,rfl⟩
      ·omega
      ·refine⟨g6,a,rfl,fun j u hu=> ?_⟩
       have hj:=(List.getElem?_eq_some_iff.1 hu).1;rw [List.length_map,b1] at hj;rw [bg f2.out rfl (a+j) (by omega),<- hu,List.getElem?_map,List.getElem?_map,List.getElem?_drop]
     obtain⟨s2,e5⟩:∃l,so.drop a=l:=⟨_,rfl⟩;rw [e5] at g5 b1;have j0:=Qa e5;have k4:=Qa g5;have m2:=Qa b1;clear g5 b1 e5;have a3:=bR f2.out;have e6:=Qa a3;clear a3;go_upto_region 10 with fail
     go_cut [9] (fun s9 wx=> ∃A n q,s9 = .slice A n q/\cB wx w4.heap.size (.slice A n q) s2/\Below w4.heap.size w4 wx)
     case first=>
      have m1:s2.length<=1000000:=by rw [m2.out];omega
      by_cases c5:q6=a
      ·have q1:∀x y:Value,(if q6=a then x else y)=x:=fun x y=>if_pos c5
       have q3:∀x y:Option Addr,(if q6=a then x else y)=x:=fun x y=>if_pos c5
       have n5:=Qa c5;clear c5;go_wp2_with fail;have c5:=n5.out;refine(sE (k4.out _ _ (.inl (by omega)) (.inr (by omega))) m1).mono ?_;clear c5;rintro e w5 ⟨v,rfl,d9,b9⟩;obtain⟨A5,q5,rfl, -⟩:=ag b9;have Hb5:=Qa d9;have Hr5:=Qa b9;clear d9 b9;go_wp2_with fail;go_meet
       case rel=>exact⟨_,_,_,rfl,Hr5.out,Hb5.out⟩
      ·rcases e6.out with ⟨e,h0, -⟩ | ⟨g6,c6,e,t9,t2, -⟩
       ·injection e with _ _ e;omega
       injection e with e1 _ e3
       subst e1 e3;go_wp2_with fail;refine(sE (k4.out _ _ (.inr ⟨g6,rfl,rfl,rfl⟩) (by omega)) m1).mono ?_;rintro e w5 ⟨v,rfl,d9,b9⟩;obtain⟨A5,q5,rfl, -⟩:=ag b9;have Hb5:=Qa d9;have Hr5:=Qa b9;clear d9 b9;go_wp2_with fail;go_meet
       case rel=>exact⟨_,_,_,rfl,Hr5.out,Hb5.out⟩
     case rest=>
      obtain⟨A9,n9,q9,rfl,g7,b0⟩:=hcut;have f6:=Qa g7;have b2:=Qa b0;have q7:n9=s2.length:=qK g7;subst q7;obtain⟨w5,j3⟩:∃x,wc=x:=⟨_,rfl⟩;rw [j3] at f6 b2 ⊢;clear g7 b0 j3;have n3:=Qa (AB (ha:=ha) (f2.out.below' b2.out));have f0:w.heap.size<=w5.heap.size:=Zb a2.out.size b2.out.size;have s3:=Qa (show(((so.take a).map bX)).length=a by rw [List.length_map,List.length_take,Hsol.out];omega);have f4:=Qa (n3.out.below' (ac w5 (.cells #[.int .i64 (n6:Int)] 3)));have b1:=m2.out;have t4:a+1+s2.length<=1000001:=by omega
      clear b1;rcases bR f6.out with ⟨e,h0, -⟩ | ⟨g9,c9,e,u0,t5, -⟩
      ·injection e with e1 e2 e3
       have e8:s2 = []:=by have:=bR f6.out;exact List.eq_nil_of_length_eq_zero h0
       subst e1 e3;have d5:=Qa e8;clear e8;go_wp2_with (first
        | (at_builtin;refine ar jI rfl (.tmp 63) (.tmp 65) rfl w.heap.size (.slice A6 a q6) a w5.heap.size 1 1 ((so.take a).map bX) [bX n6] (by simp [Act.eval]) f4.out (by simp [Act.eval]) rfl (av w5 [bX n6] 3) (by simp [bX,Value.oneCell']) (by unfold maxLen;omega) (by omega) (by simp;omega) ?_;intro v' w6 p1 p2 p3;have b4:=Qa p1;have d2:=Qa p2;clear p1 p2 p3)
        | (at_builtin;refine kg jI rfl (.tmp 66) (.tmp 67) rfl w.heap.size v' (a+1) ((so.take a).map bX ++ [bX n6]) (by simp [Act.eval]) b4.out 0 (by simp [Act.eval]) ?_))
       have f5:Below w.heap.size w w6:=bz (((a2.out.trans (b2.out.mono a2.out.size)).alloc f0 _)) f4.out (Zb f0 (by simp)) d2.out;have hN:=hnum n6;exact⟨hN▸ox hlt Hp.out ha j0.out (N:=a+1) (by rw [d5.out];simp) (by rw [d5.out];simpa using b4.out) f5 Hr.out Hlo.out Hlt.out,by simp [intOf];omega⟩
      ·injection e with e1 e2 e3
       subst e1 e3;go_wp2_with (first
        | (at_builtin;refine ar jI rfl (.tmp 63) (.tmp 65) rfl w.heap.size (.slice A6 a q6) a w5.heap.size 1 1 ((so.take a).map bX) [bX n6] (by simp [Act.eval]) f4.out (by simp [Act.eval]) rfl (av w5 [bX n6] 3) (by simp [bX,Value.oneCell']) (by unfold maxLen;omega) (by omega) (by simp;omega) ?_;intro v' w6 p1 p2 p3;have b4:=Qa p1;have d2:=Qa p2;have l1:=World.ownsRow.kept (f6.out.below' (ac w5 (.cells #[.int .i64 (n6:Int)] 3))) p2 (.inr (fun e=>by have:=(World.ownsRow.lt f2.out g9 (by rw [<- oJ A6 a n6 q6];exact e.symm)).2;omega));have m5:=Qa (pM l1);clear l1;clear p1 p2 p3)
        | (at_builtin;refine ar jI rfl (.tmp 66) (.tmp 67) rfl w.heap.size v' (a+1) g9 q9 s2.length ((so.take a).map bX ++ [bX n6]) (s2.map bX) (by simp [Act.eval]) b4.out (by simp [Act.eval]) (by simp) m5.out (by intro u hu;obtain⟨x,_,rfl⟩:=List.mem_map.1 hu;rfl) (by unfold maxLen;omega) (by omega) (by have:=d2.out.size;simp at this;omega) ?_;intro v7 w7 p1 p2 p3;have f9:=Qa p1;have f8:=Qa p2;clear p1 p2 p3))
       have f5:Below w.heap.size w w6:=bz (((a2.out.trans (b2.out.mono a2.out.size)).alloc f0 _)) f4.out (Zb f0 (by simp)) d2.out;have p0:Below w.heap.size w w7:=bz f5 b4.out f5.size f8.out;have hN:=hnum n6;exact⟨hN▸ox hlt Hp.out ha j0.out (N:=a+1+s2.length) rfl f9.out p0 Hr.out Hlo.out Hlt.out,by simp [intOf];omega⟩
  ·obtain rfl:n6=names.length:=by omega
   obtain⟨wo,rfl⟩:∃wo:World,wo=wr:=⟨_,rfl⟩;have HFill:=Qa (vA (vs:=vs) Ho.out Hb.out (names:=names));go_wp2_with fail
   go_loopw [10,11,12] (fun s10 s11 s12 wx=>GJ w names vs so A6 q6 s10 s11 s12 wx) (fun _ _ v _=>names.length - (intOf v).toNat)
   case atStart=>exact HFill.out
   case round=>
    obtain⟨k,A10,q10,A11,q11,hk,rfl,rfl,rfl,c7,c4,h6,hb⟩:=hrel;have k0:=Qa c7;have l2:=Qa c4;have H6:=Qa h6;have d0:=Qa hb;have a5:=hb.size;clear c7 c4 h6 hb
    by_cases hlt:k<names.length
    ·obtain⟨z,hz⟩:∃z,so[k]?=some z:=⟨_,Zc (by rw [Hsol.out];exact hlt)⟩
     have g4:z<names.length:=by have:=Hp.out.mem_iff.1 (Zk hz);simpa using this
     obtain⟨gn,on,rfl,hcn⟩:=HA.out (by omega);obtain⟨g2,o2,rfl,h3⟩:=q0.out (by have:=a4.out;omega);obtain⟨sz,a0⟩:∃s,names[z]?=some s:=⟨_,Zc g4⟩;obtain⟨vz,c8⟩:∃s,vs[z]?=some s:=⟨_,Zc (by have:=a4.out;have:=l4.out;omega)⟩;obtain⟨tz,j2⟩:∃s,ts[z]?=some s:=⟨_,Zc (by have:=a4.out;omega)⟩;have k6:=j1.out.2 z vz _ c8 (by rw [List.getElem?_map,j2];rfl);obtain⟨Az,cz,rfl, -⟩:=k6.form;rw [JV.flat_len] at c8;obtain⟨g6,rfl⟩:=mV H6.out (by omega);have c1:=bg H6.out rfl k (by omega);rw [List.getElem?_map,hz] at c1;simp only [Option.map_some,bX] at c1;have c2:=Zf d0.out (hcn z (dq sz) (by rw [List.getElem?_map,a0];rfl));have c3:=Zf d0.out (h3 z _ c8);unfold dq at c2;have t1: (k:Int)<names.length:=by omega
     have t3:z<ts.length:=by have:=a4.out;omega
     have Hz:=Qa hz;have r3:=Qa a0;have r6:=Qa c8;have n1:=Qa (h3 z _ c8);have s1:=Qa (fun (f:Nat->ByteArray)=>show(so.take (k+1)).map f= (so.take k).map f ++ [f z] by rw [cL hz,List.map_append];rfl);have q8:=Qa (fun (f:Nat->Value)=>show(so.take (k+1)).map f= (so.take k).map f ++ [f z] by rw [cL hz,List.map_append];rfl);have i5:=Qa (k0.out.below' (ac wr (.cells #[.string sz] 9)));clear hz a0 c8 j2 k6 hcn h3;go_wp2_with (first
      | (at_builtin;refine ar xB rfl (.tmp 75) (.tmp 83) rfl w.heap.size (.slice A10 k q10) k wr.heap.size 1 1 (((so.take k).map (mC names)).map dq) [dq sz] (by simp [Act.eval]) i5.out (by simp [Act.eval]) rfl (av wr [dq sz] 9) (by simp [dq,Value.oneCell']) (by unfold maxLen;omega) (by omega) (by simp;omega) ?_;intro v1 w1 p1 p2 p3;have b4:=Qa p1;have d2:=Qa p2;have g3:=ac wr (.cells #[.string sz] 9);have g1:Below w.heap.size w w1:=bz (d0.out.alloc a5 _) i5.out (Zb a5 g3.size) p2;have i8:=mQ i5.out p2;have k1:=Qa (al (H6.out.below' g3) i8 (by decide));have h5:=Qa (al (l2.out.below' g3) i8 (by decide));have r5:=Qa g1;have d1:=(pM k1.out) k _ (by rw [List.getElem?_map,Hz.out];rfl);unfold bX at d1;have d3:=Zf g1 n1.out;have e4:=g1.size;have b8:=Qa (h5.out.below' (ac w1 (.cells #[.slice Az tz.size cz] 28)));clear p1 p2 p3 g3 g1 i8)
      | (at_builtin;refine ar mt rfl (.tmp 85) (.tmp 93) rfl w.heap.size (.slice A11 k q11) k w1.heap.size 1 1 ((so.take k).map (F4 vs)) [.slice Az tz.size cz] (by simp [Act.eval]) b8.out (by simp [Act.eval]) rfl (av w1 [.slice Az tz.size cz] 28) (by simp [Value.oneCell']) (by unfold maxLen;omega) (by omega) (by simp;omega) ?_;intro v2 w2 p1 p2 p3;have f9:=Qa p1;have f8:=Qa p2;clear p1 p2 p3))
     obtain⟨B1,r1,rfl, -⟩:=ag b4.out;obtain⟨B2,r2,rfl, -⟩:=ag f9.out;have b6:=ac w1 (.cells #[.slice Az tz.size cz] 28);have hkt:=pR b8.out f8.out;refine⟨⟨k+1,B1,r1,B2,r2,by omega,by go_num,rfl,rfl, ?_, ?_,al (k1.out.below' b6) hkt (by decide),bz (r5.out.alloc e4 _) b8.out (Zb e4 b6.size) f8.out⟩,by simp [intOf];omega⟩
     ·have h1:=al (b4.out.below' b6) hkt (by decide)
      rw [s1.out,List.map_append,List.map_singleton,fI r3.out];exact h1
     ·have h1:=f9.out
      rw [q8.out,sy r6.out];exact h1
    ·obtain rfl:k=names.length:=by omega
     have c7:=k0.out;have c4:=l2.out;rw [List.take_of_length_le (by rw [Hsol.out];exact Za _)] at c7 c4;have b3:=Qa (D4 a4.out l4.out Hp.out Hr.out j1.out);have m0:=Qa (lh.sizes a4.out b3.out.1);have m4:=Qa (sQ Hp.out Hr.out);have q4:=Hsol.out;have h2:=Qa (Sl.of_own c7);have h9:=Qa (Sl.of_own c4);clear c7 c4;go_wp2_with fail;refine(oL (names:=so.map (mC names)) (ts:=(so.map (eY names ts)).map Prod.snd) h2.out ⟨so.map (F4 vs),h9.out,b3.out.2.2.mono fun _ _ h=>h.below d0.out (Za _)⟩ (by rw [List.length_map,q4];exact hnl) (by rw [m0.out.1];exact r4) (fun t ht x hx=>p4.out t (m0.out.2.1.mem_iff.1 ht) x hx)).mono ?_;rintro e w9 ⟨v,rfl,b0,i9⟩;have a3:∃A n q,v = .slice A n q:=by obtain⟨A,q,e,_⟩:=i9.form;exact⟨_,_,_,e⟩
     obtain⟨A9,n9,q9,rfl⟩:=a3;have b2:=Qa (d0.out.trans (b0.mono a5));have n0:=Qa ((i9.low a5).imp (Q:=(w.heap.size<= ·)) (fun g h _=>Zb a5 h));clear b0 i9;go_wp2_with fail;go_ret2;exact⟨A9,n9,q9,true,rfl,b2.out,⟨fun _=>m4.out,fun _=>rfl⟩,(fun h=>by cases h),fun _=>⟨_,b3.out.1,by rw [b3.out.2.1];exact n0.out⟩⟩
