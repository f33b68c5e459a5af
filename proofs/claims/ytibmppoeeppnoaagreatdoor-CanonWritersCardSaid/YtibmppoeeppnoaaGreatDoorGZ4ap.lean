import Derived.Test.YtibmppoeeppnoaaGreatDoorGZ4ao
set_option linter.unusedVariables false
set_option linter.unusedSimpArgs false
set_option maxHeartbeats 64000000
set_option maxRecDepth 100000
namespace Go.Proofs.YtibmppoeeppnoaaGreatDoor
open Go.RowKit
variable {s:ByteArray}{names:List ByteArray}{ts:List JV}{so:List Nat}{us vs:List Value}{B N a base g i k n q q6:Nat}{A A6:Option Addr}{e t:TypeId}{v vl vn z:Value}{W W' w wx:World}
def oe (names:List ByteArray)(k:Nat):ByteArray:=names.getD k ⟨#[]⟩
theorem fF (h:names[k]?=some s):oe names k=s:=by unfold oe;rw[List.getD_eq_getElem?_getD,h];rfl
def ES (w:World)(names:List ByteArray)(s6 s7:Value)(wr:World):Prop:= ∃ (i:Nat) (so:List Nat) (A:Option Addr) (n q:Nat),i<=names.length/\s7 =.int .i64 i/\s6 =.slice A n q/\bQ wr w.heap.size s6 so/\n=i/\so.Perm (List.range i)/\Below w.heap.size w wr/\(so.map (oe names)).Pairwise fE
def Gp (w1:World)(names:List ByteArray)(so:List Nat)(i:Nat)(s8:Value)(wr:World):Prop:= ∃a:Nat,a<=so.length/\s8 =.int .i64 a/\Below w1.heap.size w1 wr/\∀j x,j<a->so[j]?=some x->fE (oe names x) (oe names i)
def F1 (w1:World)(names:List ByteArray)(so:List Nat)(i:Nat)(s8:Value)(wr:World):Prop:= ∃a:Nat,a<=so.length/\s8 =.int .i64 a/\Below w1.heap.size w1 wr/\(∀j x,j<a->so[j]?=some x->fE (oe names x) (oe names i))/\∀x,so[a]?=some x->¬fE (oe names x) (oe names i)
def CN (w3:World)(names:List ByteArray)(so:List Nat)(i a:Nat)(s8:Value)(wx:World):Prop:= ∃b:Bool,s8 =.bool b/\Below w3.heap.size w3 wx/\(b=true->¬names.Nodup)/\(b=false->∀x,so[a]?=some x->fE (oe names i) (oe names x))
def Il (w:World)(names:List ByteArray)(ts:List JV)(e:Ending)(w':World):Prop:= ∃ (A:Option Addr) (n q:Nat) (ok:Bool),e =.returned (.tuple #[.slice A n q,.bool ok])/\Below w.heap.size w w'/\(ok=true↔names.Nodup)/\(ok=false->n=0)/\
 (ok=true->∃ps,kR names ts ps/\bF (w.heap.size<= ·) w' w.heap.size (.slice A n q) (JV.flat 0 (.mk 6 false es lL (ps.map Prod.fst) (ps.map Prod.snd))))
theorem ud {t:ByteArray}(hs:iT s)(ht:iT t):jV (o8 s) (o8 t)=true↔fE s t:=by
 unfold jV fE;rw[Bc hs.1,Bc ht.1];simp
theorem Bu (h:w.ownsRow base e 1 (.slice A n q) n (so.map df))(ha:a<=n):w.ownsRow base e 1 (.slice A a q) a ((so.take a).map df):=by
 have hl:so.length=n:=by have:=h.1;simpa using this
 rcases h.2 with ⟨e,h0⟩|⟨g,cap,cur,e,hb,hg,h1,h2,h3,h4⟩
 ·injection e with e1 e2 e3
  subst e1 e3;obtain rfl:a=0:=by omega
  exact⟨by simp,.inl ⟨rfl,rfl⟩⟩
 ·injection e with e1 _ e3
  subst e1 e3;refine⟨by simp;omega,.inr ⟨g,q,cur,rfl,hb,hg,by omega,h2,h3,?_⟩⟩;rw[Nat.mul_one] at h4 ⊢;rw[List.map_take,<-h4,List.take_take,Nat.min_eq_left ha]
theorem nx (h:W.ownsRow B 9 k v n us)(hg:W.grownBy W' v.ownBlock):aG (fun e=>e=9) W W':=
 aG.of_grown hg (fun g e cs t z hh=>by obtain⟨cs',z',h'⟩:=cD h g e;rw[h'] at hh;injection hh with hh;injection hh with _ hh;exact hh.symm)
theorem pO (h:W.ownsRow B 28 k v n us)(hg:W.grownBy W' v.ownBlock):aG (fun e=>e=28) W W':=
 aG.of_grown hg (fun g e cs t z hh=>by obtain⟨cs',z',h'⟩:=cD h g e;rw[h'] at hh;injection hh with hh;injection hh with _ hh;exact hh.symm)
def Gw (vs:List Value)(k:Nat):Value:=vs.getD k undef
def Gs (w:World)(names:List ByteArray)(vs:List Value)(so:List Nat)(A6:Option Addr)(q6:Nat)(s10 s11 s12:Value)(wx:World):Prop:= ∃ (k:Nat) (A10:Option Addr) (q10:Nat) (A11:Option Addr) (q11:Nat),k<=names.length/\s12 =.int .i64 k/\s10 =.slice A10 k q10/\s11 =.slice A11 k q11/\
 wx.ownsRow w.heap.size 9 1 (.slice A10 k q10) k (((so.take k).map (oe names)).map dL)/\wx.ownsRow w.heap.size 28 1 (.slice A11 k q11) k ((so.take k).map (Gw vs))/\wx.ownsRow w.heap.size 3 1 (.slice A6 names.length q6) names.length (so.map df)/\Below w.heap.size w wx
theorem vM (h:wx.ownsRow w.heap.size 3 1 (.slice A6 names.length q6) names.length (so.map df))(hb:Below w.heap.size w wx):Gs w names vs so A6 q6 (.slice none 0 0) (.slice none 0 0) (.int .i64 0) wx:=
 ⟨0,none,0,none,0,Zj _,rfl,rfl,rfl,⟨by simp,.inl ⟨rfl,rfl⟩⟩,⟨by simp,.inl ⟨rfl,rfl⟩⟩,h,hb⟩
theorem sC {s:Value}(h:vs[k]?=some s):Gw vs k=s:=by unfold Gw;rw[List.getD_eq_getElem?_getD,h];rfl
theorem DI (hlen:names.length=ts.length)(a1:vs.length=ts.length)(hp:so.Perm (List.range names.length))(hr:(so.map (oe names)).Pairwise fE)(hv:br (fun v ns=>dA w 0 v ns) vs (ts.map (JV.flat 0))) :
  kR names ts (so.map (eV names ts))/\(so.map (eV names ts)).map Prod.fst=so.map (oe names)/\br (fun v ns=>dA w 0 v ns) (so.map (Gw vs)) (((so.map (eV names ts)).map Prod.snd).map (JV.flat 0)):=by
 have hm:∀k∈so,k<names.length:=fun k hk=>by have:=hp.mem_iff.1 hk;simpa using this
 have hf:(so.map (eV names ts)).map Prod.fst=so.map (oe names):=by
  rw[List.map_map];exact List.map_congr_left (fun k hk=>AU hlen (hm k hk))
 refine⟨⟨xz (by rw[List.length_zip,<-hlen,Nat.min_self];exact hp),by unfold dU;rw[hf];exact hr⟩,hf,by simp,fun i a b ha hb=>?_⟩;rw[List.getElem?_map] at ha;rw[List.getElem?_map,List.getElem?_map,List.getElem?_map] at hb
 cases hk:so[i]? with
 |none=>rw[hk] at ha;simp at ha
 |some k=>
  rw[hk] at ha hb;have hlt:=hm k (Zk hk);have ht:=Zc (l:=ts) (i:=k) (by omega);have a0:=Zc (l:=vs) (i:=k) (by omega);simp only[Option.map_some,Option.some.injEq] at ha hb;rw[BK hlen ht] at hb;rw[sC a0] at ha;subst ha hb;exact hv.2 k _ _ a0 (by rw[List.getElem?_map,ht];rfl)
theorem hnum (i:Nat):((i+1:Nat):Int)= (i:Int)+1:=by omega
theorem oD {w7:World}{s2:List Nat}(hlt:i<names.length)(hp:so.Perm (List.range i))(ha:a<=i)(a2:so.drop a=s2)(hN:N=a+1+s2.length)
  (a0:w7.ownsRow w.heap.size 3 1 v N ((so.take a).map df ++ [df i]++s2.map df)) (hb:Below w.heap.size w w7) (hr:(so.map (oe names)).Pairwise fE) (a4:∀j x,j<a->so[j]?=some x->fE (oe names x) (oe names i)) (a3:∀x,so[a]?=some x->fE (oe names i) (oe names x)) :
  ES w names v (.int .i64 ((i+1:Nat):Int)) w7:=by
 subst a2;have hl:so.length=i:=by have:=hp.length_eq;simpa using this
 have a1:N=i+1:=by rw[hN,List.length_drop];omega
 subst a1;obtain⟨A,q,rfl,-⟩:=ag a0;refine⟨i+1,so.take a ++ [i]++so.drop a,A,i+1,q,by omega,rfl,rfl,?_,rfl,uZ a hp,hb,ui hr a4 a3⟩;unfold bQ;have:(so.take a ++ [i]++so.drop a).length=i+1:=by simp;omega
 rw[this,List.map_append,List.map_append];exact a0
theorem mo (E:dl t e z k B)(w:World)(base:Nat)(ty:TypeId)(v:Value)(n:Nat)(xs:List Value)(a0:w.ownsRow base e k v n xs)(c:Nat) :
  (Builtin.append_ #[t,t] ty #[v,.slice none 0 c]).run Tryz.prog w =.ok v w:=by
 obtain⟨i0,hi,a4,a3,a2⟩:=info_parts E.hi;rcases a0.2 with ⟨rfl,rfl⟩|⟨g,cap,cur,rfl,_,_,a1,_⟩
 ·simp[Builtin.append_,run_underlying E.ht,sizeOf,typeInfo,hi,Builtin.lenOf,Builtin.firstCells]
 ·simp[Builtin.append_,run_underlying E.ht,sizeOf,typeInfo,hi,Builtin.lenOf,Builtin.firstCells,a1,storeCells]
theorem jO (E:dl t e z k B){ops:Array Oper}{rest:List Oper}{o:Oper}{a:Act}{Q:Exit->Act->World->Prop}(a1:o.guard=none)(s x:Operand)
  (ho:o.op =.call {callee:=.builtin .append,args:= #[s,x],argTypes:= #[t,t]}) (base:Nat) (v:Value) (n:Nat) (us:List Value) (hs:a.eval s=v) (a0:w.ownsRow base e k v n us) (c:Nat) (hx:a.eval x =.slice none 0 c)
  (h:wpList Tryz.prog ops Q rest (a.put o.dst v) w):wpList Tryz.prog ops Q (o::rest) a w:=
 wpList_plain a1 fun _ hK=>by
  unfold Oper.wp execOp;simp only[ho,resolve,invoke,builtin,Sem.run_bind,Sem.run_pure,Result.andThen_ok,List.map_toArray,List.map_cons,List.map_nil,hs,hx,mo E w base _ v n us a0 c];exact hK _ _ h
theorem oQ (A:Option Addr)(a b q:Nat):(Value.slice A a q).ownBlock= (Value.slice A b q).ownBlock:=by cases A <;> rfl
theorem pD {xs:List Value}(h:w.ownsRow base e 1 (.slice (some ⟨g,0,none⟩) n q) n xs):∀j u,xs[j]?=some u->w.cell? ⟨g,j,none⟩=some u:=fun j u hu=>by
 have hl:xs.length=n:=by have:=h.1;simpa using this
 have:=(List.getElem?_eq_some_iff.1 hu).1;rw[aD h rfl j (by omega),hu]
theorem sV (hn:Sl w vn (names.map dL))(hl:ii w vl (ts.map (JV.flat 0)))(hlen:names.length=ts.length)(h8:∀s∈names,iT s)(hnl:names.length<=1000000)(q3:JV.sizes ts<=1000000)
  (hkl:∀t∈ts,∀x∈t.flat 0,x.names.length<=1000000/\∀q∈x.kids,q<=1000000) :
  Calls Tryz.prog 152 #[vn,vl] w (Il w names ts):=by
 obtain⟨hm,A,cap,rfl,i3,hA⟩:=id hn;rw[List.length_map] at hm i3 hA ⊢;obtain⟨vs,j1,h2⟩:=id hl;obtain⟨p0,A2,cap2,rfl,e0,g1⟩:=id j1;have a5:vs.length=ts.length:=by have:=h2.1;simpa using this
 rw[a5] at p0 e0 g1 ⊢;have HA:=Qa hA;have q1:=Qa g1;have Hn:=Qa hn;have Hl:=Qa hl;have k3:=Qa h2;have i9:=Qa a5;have a4:=Qa hlen;have H8:=Qa h8;have n1:=Qa hkl;have s5:ts.length<=1000000:=by omega
 clear hn hl hA g1 j1 h2 a5 hlen h8 hkl;go_enter Tryz.func152,Tryz.ntmps152;go_wp2_with fail
 go_loopw [6,7,8,9] (fun s6 s7 _ _ wr=>ES w names s6 s7 wr) (fun _ v _ _ _=>names.length - (intOf v).toNat)
 case atStart=>exact⟨0, [],none,0,0,Zj _,rfl,rfl,bQ.nil _ _,rfl,by simp,Zd _ _,by simp⟩
 case round=>
  obtain⟨i,so,A6,n6,q6,hi,rfl,rfl,ho,q2,hp,hb,hr⟩:=hrel;subst q2;have b8:so.length=n6:=by have:=hp.length_eq;simpa using this
  unfold bQ at ho;rw[b8] at ho;have Hp:=Qa hp;have Ho:=Qa ho;have Hb:=Qa hb;have Hr:=Qa hr;have Hsol:=Qa b8;have n2:=hb.size;obtain⟨_,cq,eq6,t3,q8,k4⟩:=ag ho;injection eq6 with e1 e2 e3
  subst e1 e3;have k6:=Qa k4;clear hp ho hb hr b8 k4 e2
  by_cases hlt:n6<names.length
  ·obtain⟨gn,on,rfl,hcn⟩:=HA.out (by omega);obtain⟨si,l2⟩:∃s,names[n6]?=some s:=⟨_,Zc hlt⟩;have b4:=Qa l2;have f1:=Qa hcn;have s3:(n6:Int)<names.length:=by omega
   clear l2 hcn;obtain⟨wo,rfl⟩:∃wo:World,wo=wr:=⟨_,rfl⟩;go_upto_block 2 with fail
   go_cut [8] (fun s8 wx=>F1 wo names so n6 s8 wx)
   case first=>
    go_wp2_with fail
    go_loopw [8] (fun s8 wx=>Gp wo names so n6 s8 wx) (fun v _=>n6 - (intOf v).toNat)
    case atStart=>exact⟨0,Zj _,rfl,Zd _ _,fun j x h=>by omega⟩
    case round=>
     obtain⟨a,ha,rfl,hb,d9⟩:=hrel;have Hbi:=Qa hb;have Hlo:=Qa d9;rw[Hsol.out] at ha;clear hb d9
     by_cases hat:a<n6
     ·obtain⟨z,hz⟩:∃z,so[a]?=some z:=⟨_,Zc (by rw[Hsol.out];exact hat)⟩;obtain⟨g6,rfl⟩:=k6.out (by omega);have g5:z<n6:=by have:=Hp.out.mem_iff.1 (Zk hz);simpa using this
      obtain⟨sz,a0⟩:∃s,names[z]?=some s:=⟨_,Zc (by omega)⟩;have c1:=aD (Ho.out.below' Hbi.out) rfl a (by omega);rw[List.getElem?_map,hz] at c1;simp only[Option.map_some,df] at c1;have c8:=Hb.out.trans (Hbi.out.mono Hb.out.size);have c2:=Zf c8 (f1.out z (dL sz) (by rw[List.getElem?_map,a0];rfl));have c3:=Zf c8 (f1.out n6 (dL si) (by rw[List.getElem?_map,b4.out];rfl));unfold dL at c2 c3;have f0:=H8.out sz (Zk a0);have g0:=H8.out si (Zk b4.out);have n5:=f0.2;have d0:=g0.2;have Hz:=Qa hz;have a6:=Qa a0;clear hz a0;have h5:(a:Int)<n6:=by omega
      have q0:z<names.length:=by omega
      go_wp2_with fail;refine aO (fun w'=>w'.cell? ⟨g6,a,none⟩=some (.int .i64 z)/\w'.cell? ⟨gn,on+z,none⟩=some (.string sz)/\w'.cell? ⟨gn,on+n6,none⟩=some (.string si)) (⟨c1,c2,c3⟩) fun a1=>?_
      refine tH 0 a1 ?_;refine tH 1 a1 ?_;refine tH 2 a1 ?_;refine tH 3 a1 ?_;refine tH 4 a1 ?_;refine tH 5 a1 ?_
      try simp only[Act.put,jP,jQ,jR]
      refine tH 6 a1 ?_;refine tH 7 a1 ?_;refine tH 8 a1 ?_;refine tH 9 a1 ?_;refine tH 10 a1 ?_;refine tH 11 a1 ?_
      try simp only[Act.put,jP,jQ,jR]
      refine tH 12 a1 ?_;refine tH 13 a1 ?_;refine tH 14 a1 ?_;refine tH 15 a1 ?_
      try simp only[Act.put,jP,jQ,jR]
      refine rH 16 fun K hK=>?_
      go_simp;refine(qI _ sz si (Zb n5 (by decide)) (Zb d0 (by decide))).mono ?_;rintro e w9 ⟨rfl,b2⟩;have b1:=Qa (Hbi.out.trans (((Zd wr.heap.size wr).drew.trans b2).mono Hbi.out.size));go_simp;refine hK.out _ _ (⟨Zf b2 a1.1,Zf b2 a1.2.1,Zf b2 a1.2.2⟩) (fun a1=>?_);clear hK K
      try simp only[Act.put,jP,jQ,jR]
      refine tH 17 a1 ?_
      try simp only[Act.put,jP,jQ,jR]
      refine wpAnyH_done (by kernel_rfl) (NoPanic.normal ?_) _
      by_cases hah:jV (o8 sz) (o8 si)=true
      ·rw[hah];have Hlt:=Qa ((ud f0 g0).1 hah);go_wp2_with fail;refine⟨⟨a+1,by rw[Hsol.out];omega,by go_num,b1.out,fun j x hj hx=>?_⟩,by simp[intOf];omega⟩
       by_cases hja:j=a
       ·subst hja;have:=hx.symm.trans Hz.out;injection this with this
        subst this;rw[fF a6.out,fF b4.out];exact Hlt.out
       ·exact Hlo.out j x (by omega) hx
      ·have h3:jV (o8 sz) (o8 si)=false:=by simpa using hah
       have p4:=Qa (fun h=>hah ((ud f0 g0).2 h));rw[h3];clear hah;go_wp2_with fail;go_meet
       case rel=>
        refine⟨a,by rw[Hsol.out];omega,rfl,b1.out,Hlo.out,fun x hx=>?_⟩;have:=hx.symm.trans Hz.out;injection this with this
        subst this;rw[fF a6.out,fF b4.out];exact p4.out
     ·have h5:¬ (a:Int)<n6:=by omega
      go_wp2_with fail;go_quiet (fail);go_wp2_with fail;go_meet
      case rel=>exact⟨a,by rw[Hsol.out];omega,rfl,av Hbi.out _,Hlo.out,fun x hx=>by have:=(List.getElem?_eq_some_iff.1 hx).1;rw[Hsol.out] at this;omega⟩
   case rest=>
    obtain⟨a,ha,rfl,j0,d9,m0⟩:=hcut;rw[Hsol.out] at ha;have Hbi:=Qa j0;have Hlo:=Qa d9;have m4:=Qa m0;clear j0 d9 m0;have c8:=Hb.out.trans (Hbi.out.mono Hb.out.size);have c3:=Zf c8 (f1.out n6 (dL si) (by rw[List.getElem?_map,b4.out];rfl));unfold dL at c3;have g8:=Qa c8;clear c8;go_upto_if 56 with fail
    obtain⟨w3,rfl⟩:∃w3:World,w3=wc:=⟨_,rfl⟩;go_cut [56] (fun s56 wx=>CN w3 names so n6 a s56 wx)
    case first=>
     by_cases hat:a<n6
     ·obtain⟨z,hz⟩:∃z,so[a]?=some z:=⟨_,Zc (by rw[Hsol.out];exact hat)⟩;obtain⟨g6,rfl⟩:=k6.out (by omega);have g5:z<n6:=by have:=Hp.out.mem_iff.1 (Zk hz);simpa using this
      obtain⟨sz,a0⟩:∃s,names[z]?=some s:=⟨_,Zc (by omega)⟩;have c1:=aD (Ho.out.below' Hbi.out) rfl a (by omega);rw[List.getElem?_map,hz] at c1;simp only[Option.map_some,df] at c1;have c2:=Zf g8.out (f1.out z (dL sz) (by rw[List.getElem?_map,a0];rfl));unfold dL at c2;have f0:=H8.out sz (Zk a0);have g0:=H8.out si (Zk b4.out);have Hz:=Qa hz;have a6:=Qa a0;clear hz a0;have h5:(a:Int)<n6:=by omega
      have q0:z<names.length:=by omega
      by_cases he:sz=si
      ·have n8:(sz.toList==si.toList)=true:=by rw[jh];simp[he]
       have a7:¬names.Nodup:=fun hd=>by
        have h1:=a6.out;rw[he] at h1;have:=zq hd h1 b4.out;omega
       have Hdup:=Qa a7;clear he a7;go_wp2_with fail;go_quiet (fail);go_wp2_with fail;go_meet
       case rel=>exact⟨_,rfl,av (Zd _ _) _,(fun _=>Hdup.out),(fun h=>by cases h)⟩
      ·have n8:(sz.toList==si.toList)=false:=by rw[jh];simp[he]
       have Hlt:Hid (∀x,so[a]?=some x->fE (oe names n6) (oe names x)):=Qa (fun x hx=>by
        have h0:=m4.out x hx;have:=hx.symm.trans Hz.out;injection this with this
        subst this;rw[fF a6.out,fF b4.out] at h0 ⊢;exact jm h0 he)
       clear he;go_wp2_with fail;go_quiet (fail);go_wp2_with fail;go_meet
       case rel=>exact⟨_,rfl,av (Zd _ _) _,(fun h=>by cases h),(fun _=>Hlt.out)⟩
     ·have h5:¬ (a:Int)<n6:=by omega
      go_wp2_with fail;go_quiet (fail);go_wp2_with fail;go_meet
      case rel=>exact⟨_,rfl,av (Zd _ _) _,(fun h=>by cases h),fun _ x hx=>by have:=(List.getElem?_eq_some_iff.1 hx).1;rw[Hsol.out] at this;omega⟩
    case rest=>
     obtain⟨b,rfl,g7,a7,d6⟩:=hcut;have Hdup:=Qa a7;have Hlt:=Qa d6;have i8:=Qa g7;have a2:=Qa (g8.out.trans (g7.mono g8.out.size));clear d6 g7 a7
     cases b
     case true=>
      have Hd:=Qa (Hdup.out rfl);clear Hdup;go_wp2_with fail;go_ret2;exact⟨none,0,0,false,rfl,a2.out,⟨(fun h=>by cases h),(fun h=>absurd h Hd.out)⟩,(fun _=>rfl),(fun h=>by cases h)⟩
     have Hlt:=Qa (Hlt.out rfl);obtain⟨w4,l1⟩:∃x,wc=x:=⟨_,rfl⟩;rw[l1] at i8 a2 ⊢;clear l1 Hdup c3;have f9:=Qa ((Ho.out.below' Hbi.out).below' i8.out);have b0:(so.drop a).length=n6 - a:=by rw[List.length_drop,Hsol.out]
     have h4:∀A' c',(a=n6\/∃g6,A6=some ⟨g6,0,none⟩/\A'=some ⟨g6,a,none⟩/\c'=q6 - a)->n6 - a<=c'\/a=n6->Sl w4 (.slice A' (n6 - a) c') ((so.drop a).map df):=by
      rintro A' c' h hc;refine⟨by rw[List.length_map,b0];unfold maxLen at q8;omega,A',c',by rw[List.length_map,b0],by rw[List.length_map,b0];omega,fun h0=>?_⟩;rw[List.length_map,b0] at h0;rcases h with h|⟨g6,rfl,rfl,rfl⟩
      ·omega
      ·refine⟨g6,a,rfl,fun j u hu=>?_⟩;have hj:=(List.getElem?_eq_some_iff.1 hu).1;rw[List.length_map,b0] at hj;rw[aD f9.out rfl (a+j) (by omega),<-hu,List.getElem?_map,List.getElem?_map,List.getElem?_drop]
     obtain⟨s2,d0⟩:∃l,so.drop a=l:=⟨_,rfl⟩;rw[d0] at h4 b0;have k0:=Qa d0;have m1:=Qa h4;have j3:=Qa b0;clear h4 b0 d0;have a3:=bT f9.out;have e4:=Qa a3;clear a3;go_upto_region 10 with fail
     go_cut [9] (fun s9 wx=> ∃A n q,s9 =.slice A n q/\bQ wx w4.heap.size (.slice A n q) s2/\Below w4.heap.size w4 wx)
     case first=>
      have k1:s2.length<=1000000:=by rw[j3.out];omega
      by_cases c0:q6=a
      ·have r6:∀x y:Value,(if q6=a then x else y)=x:=fun x y=>if_pos c0
       have s1:∀x y:Option Addr,(if q6=a then x else y)=x:=fun x y=>if_pos c0
       have m5:=Qa c0;clear c0;go_wp2_with fail;have c0:=m5.out;refine(tu (m1.out _ _ (.inl (by omega)) (.inr (by omega))) k1).mono ?_;clear c0;rintro e w5 ⟨v,rfl,d2,b7⟩;obtain⟨A5,q5,rfl,-⟩:=ag b7;have Hb5:=Qa d2;have Hr5:=Qa b7;clear d2 b7;go_wp2_with fail;go_meet
       case rel=>exact⟨_,_,_,rfl,Hr5.out,Hb5.out⟩
      ·rcases e4.out with ⟨e,h0,-⟩|⟨g6,c6,e,s4,t4,-⟩
       ·injection e with _ _ e;omega
       injection e with e1 _ e3
       subst e1 e3;go_wp2_with fail;refine(tu (m1.out _ _ (.inr ⟨g6,rfl,rfl,rfl⟩) (by omega)) k1).mono ?_;rintro e w5 ⟨v,rfl,d2,b7⟩;obtain⟨A5,q5,rfl,-⟩:=ag b7;have Hb5:=Qa d2;have Hr5:=Qa b7;clear d2 b7;go_wp2_with fail;go_meet
       case rel=>exact⟨_,_,_,rfl,Hr5.out,Hb5.out⟩
     case rest=>
      obtain⟨A9,n9,q9,rfl,h9,b2⟩:=hcut;have f2:=Qa h9;have b1:=Qa b2;have q7:n9=s2.length:=qN h9;subst q7;obtain⟨w5,k5⟩:∃x,wc=x:=⟨_,rfl⟩;rw[k5] at f2 b1 ⊢;clear h9 b2 k5;have m2:=Qa (Bu (ha:=ha) (f9.out.below' b1.out));have f8:w.heap.size<=w5.heap.size:=Zb a2.out.size b1.out.size;have s0:=Qa (show(((so.take a).map df)).length=a by rw[List.length_map,List.length_take,Hsol.out];omega);have f5:=Qa (m2.out.below' (ac w5 (.cells #[.int .i64 (n6:Int)] 3)));have b0:=j3.out;have t6:a+1+s2.length<=1000001:=by omega
      clear b0;rcases bT f2.out with ⟨e,h0,-⟩|⟨g9,c9,e,t1,t5,-⟩
      ·injection e with e1 e2 e3
       have d5:s2 = []:=by have:=bT f2.out;exact List.eq_nil_of_length_eq_zero h0
       subst e1 e3;have e5:=Qa d5;clear d5;go_wp2_with (first
        |(at_builtin;refine lH jv f5.out (ap w5 [df n6] 3) (by simp;omega) ?_ (h1:=(by simp[df,Value.oneCell']));intro v' w6 p1 p2 p3;have b5:=Qa p1;have e6:=Qa p2;clear p1 p2 p3)
        |(at_builtin;refine jO jv rfl (.tmp 66) (.tmp 67) rfl w.heap.size v' (a+1) ((so.take a).map df ++ [df n6]) (by simp[Act.eval]) b5.out 0 (by simp[Act.eval]) ?_))
       have f6:Below w.heap.size w w6:=bw (((a2.out.trans (b1.out.mono a2.out.size)).alloc f8 _)) f5.out (Zb f8 (by simp)) e6.out;have hN:=hnum n6;exact⟨hN▸oD hlt Hp.out ha k0.out (N:=a+1) (by rw[e5.out];simp) (by rw[e5.out];simpa using b5.out) f6 Hr.out Hlo.out Hlt.out,by simp[intOf];omega⟩
      ·injection e with e1 e2 e3
       subst e1 e3;go_wp2_with (first
        |(at_builtin;refine lH jv f5.out (ap w5 [df n6] 3) (by simp;omega) ?_ (h1:=(by simp[df,Value.oneCell']));intro v' w6 p1 p2 p3;have b5:=Qa p1;have e6:=Qa p2;have l3:=World.ownsRow.kept (f2.out.below' (ac w5 (.cells #[.int .i64 (n6:Int)] 3))) p2 (.inr (fun e=>by have:=(World.ownsRow.lt f9.out g9 (by rw[<-oQ A6 a n6 q6];exact e.symm)).2;omega));have n4:=Qa (pD l3);clear l3;clear p1 p2 p3)
        |(at_builtin;refine lH jv b5.out n4.out (by have:=e6.out.size;simp at this;omega) ?_ (hl:=(by simp)) (h1:=(by intro u hu;obtain⟨x,_,rfl⟩:=List.mem_map.1 hu;rfl));intro v7 w7 p1 p2 p3;have e8:=Qa p1;have f3:=Qa p2;clear p1 p2 p3))
       have f6:Below w.heap.size w w6:=bw (((a2.out.trans (b1.out.mono a2.out.size)).alloc f8 _)) f5.out (Zb f8 (by simp)) e6.out;have r7:Below w.heap.size w w7:=bw f6 b5.out f6.size f3.out;have hN:=hnum n6;exact⟨hN▸oD hlt Hp.out ha k0.out (N:=a+1+s2.length) rfl e8.out r7 Hr.out Hlo.out Hlt.out,by simp[intOf];omega⟩
  ·obtain rfl:n6=names.length:=by omega
   obtain⟨wo,rfl⟩:∃wo:World,wo=wr:=⟨_,rfl⟩;have HFill:=Qa (vM (vs:=vs) Ho.out Hb.out (names:=names));go_wp2_with fail
   go_loopw [10,11,12] (fun s10 s11 s12 wx=>Gs w names vs so A6 q6 s10 s11 s12 wx) (fun _ _ v _=>names.length - (intOf v).toNat)
   case atStart=>exact HFill.out
   case round=>
    obtain⟨k,A10,q10,A11,q11,hk,rfl,rfl,rfl,c7,c4,h6,hb⟩:=hrel;have l5:=Qa c7;have j2:=Qa c4;have H6:=Qa h6;have d7:=Qa hb;have a9:=hb.size;clear c7 c4 h6 hb
    by_cases hlt:k<names.length
    ·obtain⟨z,hz⟩:∃z,so[k]?=some z:=⟨_,Zc (by rw[Hsol.out];exact hlt)⟩;have g5:z<names.length:=by have:=Hp.out.mem_iff.1 (Zk hz);simpa using this
     obtain⟨gn,on,rfl,hcn⟩:=HA.out (by omega);obtain⟨g2,o2,rfl,g3⟩:=q1.out (by have:=a4.out;omega);obtain⟨sz,a0⟩:∃s,names[z]?=some s:=⟨_,Zc g5⟩;obtain⟨vz,c5⟩:∃s,vs[z]?=some s:=⟨_,Zc (by have:=a4.out;have:=i9.out;omega)⟩;obtain⟨tz,k9⟩:∃s,ts[z]?=some s:=⟨_,Zc (by have:=a4.out;omega)⟩;have k2:=k3.out.2 z vz _ c5 (by rw[List.getElem?_map,k9];rfl);obtain⟨Az,cz,rfl,-⟩:=k2.form;rw[JV.flat_len] at c5;obtain⟨g6,rfl⟩:=oa H6.out (by omega);have c1:=aD H6.out rfl k (by omega);rw[List.getElem?_map,hz] at c1;simp only[Option.map_some,df] at c1;have c2:=Zf d7.out (hcn z (dL sz) (by rw[List.getElem?_map,a0];rfl));have c3:=Zf d7.out (g3 z _ c5);unfold dL at c2;have t0:(k:Int)<names.length:=by omega
     have t2:z<ts.length:=by have:=a4.out;omega
     have Hz:=Qa hz;have n3:=Qa a0;have r4:=Qa c5;have r3:=Qa (g3 z _ c5);have m3:=Qa (fun (f:Nat->ByteArray)=>show(so.take (k+1)).map f= (so.take k).map f ++ [f z] by rw[bU hz,List.map_append];rfl);have n0:=Qa (fun (f:Nat->Value)=>show(so.take (k+1)).map f= (so.take k).map f ++ [f z] by rw[bU hz,List.map_append];rfl);have i5:=Qa (l5.out.below' (ac wr (.cells #[.string sz] 9)));clear hz a0 c5 k9 k2 hcn g3;go_wp2_with (first
      |(at_builtin;refine lH yM i5.out (ap wr [dL sz] 9) (by simp;omega) ?_ (h1:=(by simp[dL,Value.oneCell']));intro v1 w1 p1 p2 p3;have b5:=Qa p1;have e6:=Qa p2;have e7:=ac wr (.cells #[.string sz] 9);have f4:Below w.heap.size w w1:=bw (d7.out.alloc a9 _) i5.out (Zb a9 e7.size) p2;have h7:=nx i5.out p2;have l0:=Qa (al (H6.out.below' e7) h7 (by decide));have i0:=Qa (al (j2.out.below' e7) h7 (by decide));have r5:=Qa f4;have d1:=(pD l0.out) k _ (by rw[List.getElem?_map,Hz.out];rfl);unfold df at d1;have d3:=Zf f4 r3.out;have d4:=f4.size;have b9:=Qa (i0.out.below' (ac w1 (.cells #[.slice Az tz.size cz] 28)));clear p1 p2 p3 e7 f4 h7)
      |(at_builtin;refine lH mD b9.out (ap w1 [.slice Az tz.size cz] 28) (by simp;omega) ?_;intro v2 w2 p1 p2 p3;have e8:=Qa p1;have f3:=Qa p2;clear p1 p2 p3))
     obtain⟨B1,r1,rfl,-⟩:=ag b5.out;obtain⟨B2,r2,rfl,-⟩:=ag e8.out;have b6:=ac w1 (.cells #[.slice Az tz.size cz] 28);have hkt:=pO b9.out f3.out;refine⟨⟨k+1,B1,r1,B2,r2,by omega,by go_num,rfl,rfl,?_,?_,al (l0.out.below' b6) hkt (by decide),bw (r5.out.alloc d4 _) b9.out (Zb d4 b6.size) f3.out⟩,by simp[intOf];omega⟩
     ·have h1:=al (b5.out.below' b6) hkt (by decide);rw[m3.out,List.map_append,List.map_singleton,fF n3.out];exact h1
     ·have h1:=e8.out;rw[n0.out,sC r4.out];exact h1
    ·obtain rfl:k=names.length:=by omega
     have c7:=l5.out;have c4:=j2.out;rw[List.take_of_length_le (by rw[Hsol.out];exact Za _)] at c7 c4;have b3:=Qa (DI a4.out i9.out Hp.out Hr.out k3.out);have l4:=Qa (kR.sizes a4.out b3.out.1);have r0:=Qa (sY Hp.out Hr.out);have q4:=Hsol.out;have i2:=Qa (Sl.of_own c7);have g4:=Qa (Sl.of_own c4);clear c7 c4;go_wp2_with fail;refine(o0 (names:=so.map (oe names)) (ts:=(so.map (eV names ts)).map Prod.snd) i2.out ⟨so.map (Gw vs),g4.out,b3.out.2.2.mono fun _ _ h=>h.below d7.out (Za _)⟩ (by rw[List.length_map,q4];exact hnl) (by rw[l4.out.1];exact q3) (fun t ht x hx=>n1.out t (l4.out.2.1.mem_iff.1 ht) x hx)).mono ?_;rintro e w9 ⟨v,rfl,b2,i4⟩;have a3:∃A n q,v =.slice A n q:=by obtain⟨A,q,e,_⟩:=i4.form;exact⟨_,_,_,e⟩
     obtain⟨A9,n9,q9,rfl⟩:=a3;have b1:=Qa (d7.out.trans (b2.mono a9));have m9:=Qa ((i4.low a9).imp (Q:=(w.heap.size<= ·)) (fun g h _=>Zb a9 h));clear b2 i4;go_wp2_with fail;go_ret2;exact⟨A9,n9,q9,true,rfl,b1.out,⟨fun _=>r0.out,fun _=>rfl⟩,(fun h=>by cases h),fun _=>⟨_,b3.out.1,by rw[b3.out.2.1];exact m9.out⟩⟩
