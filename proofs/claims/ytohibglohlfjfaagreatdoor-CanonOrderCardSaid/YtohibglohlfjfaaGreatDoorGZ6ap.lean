import Derived.Test.YtohibglohlfjfaaGreatDoorGZ6ao
set_option linter.unusedVariables false
set_option linter.unusedSimpArgs false
set_option maxHeartbeats 64000000
set_option maxRecDepth 100000
namespace Go.Proofs.YtohibglohlfjfaaGreatDoor
open Go.RowKit
variable {ts:List JV}{so:List Nat}{us vs:List Value}{B N base g i n q q6:Nat}{A A6:Option Addr}{e:TypeId}{v vn z:Value}{W W' w wx:World}
def nU (names:List ByteArray)(k:Nat):ByteArray:=names.getD k ⟨#[]⟩
theorem fu {names:List ByteArray}{k:Nat}{s:ByteArray}(h:names[k]?=some s):nU names k=s:=by unfold nU;rw[List.getD_eq_getElem?_getD,h];rfl
def F4 (w:World)(names:List ByteArray)(s6 s7:Value)(wr:World):Prop:= ∃ (i:Nat) (so:List Nat) (A:Option Addr) (n q:Nat),i<=names.length/\s7 =.int .i64 i/\s6 =.slice A n q/\bI wr w.heap.size s6 so/\n=i/\so.Perm (List.range i)/\Below w.heap.size w wr/\(so.map (nU names)).Pairwise fD
def IK (w1:World)(names:List ByteArray)(so:List Nat)(i:Nat)(s8:Value)(wr:World):Prop:= ∃a:Nat,a<=so.length/\s8 =.int .i64 a/\Below w1.heap.size w1 wr/\∀j x,j<a->so[j]?=some x->fD (nU names x) (nU names i)
def Gw (w1:World)(names:List ByteArray)(so:List Nat)(i:Nat)(s8:Value)(wr:World):Prop:= ∃a:Nat,a<=so.length/\s8 =.int .i64 a/\Below w1.heap.size w1 wr/\(∀j x,j<a->so[j]?=some x->fD (nU names x) (nU names i))/\∀x,so[a]?=some x->¬fD (nU names x) (nU names i)
def DQ (w3:World)(names:List ByteArray)(so:List Nat)(i a:Nat)(s8:Value)(wx:World):Prop:= ∃b:Bool,s8 =.bool b/\Below w3.heap.size w3 wx/\(b=true->¬names.Nodup)/\(b=false->∀x,so[a]?=some x->fD (nU names i) (nU names x))
def JS (w:World)(names:List ByteArray)(ts:List JV)(e:Ending)(w':World):Prop:= ∃ (A:Option Addr) (n q:Nat) (ok:Bool),e =.returned (.tuple #[.slice A n q,.bool ok])/\Below w.heap.size w w'/\(ok=true↔names.Nodup)/\(ok=false->n=0)/\
 (ok=true->∃ps,lA names ts ps/\bj (w.heap.size<= ·) w' w.heap.size (.slice A n q) (JV.flat 0 (.mk 6 false es j8 (ps.map Prod.fst) (ps.map Prod.snd))))
theorem vb {s t:ByteArray}(hs:iH s)(ht:iH t):j6 (o9 s) (o9 t)=true↔fD s t:=by
 unfold j6 fD;rw[BJ hs.1,BJ ht.1];simp
theorem Es {a:Nat}(h:w.ownsRow base e 1 (.slice A n q) n (so.map cO))(ha:a<=n):w.ownsRow base e 1 (.slice A a q) a ((so.take a).map cO):=by
 have hl:so.length=n:=by have:=h.1;simpa using this
 rcases h.2 with ⟨e,h0⟩|⟨g,cap,cur,e,hb,hg,h1,h2,h3,h4⟩
 ·injection e with e1 e2 e3
  subst e1 e3;obtain rfl:a=0:=by omega
  exact⟨by simp,.inl ⟨rfl,rfl⟩⟩
 ·injection e with e1 _ e3
  subst e1 e3;refine⟨by simp;omega,.inr ⟨g,q,cur,rfl,hb,hg,by omega,h2,h3,?_⟩⟩;rw[Nat.mul_one] at h4 ⊢;rw[List.map_take,<-h4,List.take_take,Nat.min_eq_left ha]
theorem nO {k:Nat}(h:W.ownsRow B 9 k v n us)(hg:W.grownBy W' v.ownBlock):aG (fun e=>e=9) W W':=
 aG.of_grown hg (fun g e cs t z hh=>by obtain⟨cs',z',h'⟩:=cj h g e;rw[h'] at hh;injection hh with hh;injection hh with _ hh;exact hh.symm)
theorem pC {k:Nat}(h:W.ownsRow B 28 k v n us)(hg:W.grownBy W' v.ownBlock):aG (fun e=>e=28) W W':=
 aG.of_grown hg (fun g e cs t z hh=>by obtain⟨cs',z',h'⟩:=cj h g e;rw[h'] at hh;injection hh with hh;injection hh with _ hh;exact hh.symm)
def Jg (vs:List Value)(k:Nat):Value:=vs.getD k undef
def IH (w:World)(names:List ByteArray)(vs:List Value)(so:List Nat)(A6:Option Addr)(q6:Nat)(s10 s11 s12:Value)(wx:World):Prop:= ∃ (k:Nat) (A10:Option Addr) (q10:Nat) (A11:Option Addr) (q11:Nat),k<=names.length/\s12 =.int .i64 k/\s10 =.slice A10 k q10/\s11 =.slice A11 k q11/\
 wx.ownsRow w.heap.size 9 1 (.slice A10 k q10) k (((so.take k).map (nU names)).map dU)/\wx.ownsRow w.heap.size 28 1 (.slice A11 k q11) k ((so.take k).map (Jg vs))/\wx.ownsRow w.heap.size 3 1 (.slice A6 names.length q6) names.length (so.map cO)/\Below w.heap.size w wx
theorem wt {names:List ByteArray}(h:wx.ownsRow w.heap.size 3 1 (.slice A6 names.length q6) names.length (so.map cO))(hb:Below w.heap.size w wx):IH w names vs so A6 q6 (.slice none 0 0) (.slice none 0 0) (.int .i64 0) wx:=
 ⟨0,none,0,none,0,Zk _,rfl,rfl,rfl,⟨by simp,.inl ⟨rfl,rfl⟩⟩,⟨by simp,.inl ⟨rfl,rfl⟩⟩,h,hb⟩
theorem sm {k:Nat}{s:Value}(h:vs[k]?=some s):Jg vs k=s:=by unfold Jg;rw[List.getD_eq_getElem?_getD,h];rfl
theorem EX {names:List ByteArray}(hlen:names.length=ts.length)(a1:vs.length=ts.length)(hp:so.Perm (List.range names.length))(hr:(so.map (nU names)).Pairwise fD)(hv:bo (fun v ns=>dL w 0 v ns) vs (ts.map (JV.flat 0))) :
  lA names ts (so.map (eS names ts))/\(so.map (eS names ts)).map Prod.fst=so.map (nU names)/\bo (fun v ns=>dL w 0 v ns) (so.map (Jg vs)) (((so.map (eS names ts)).map Prod.snd).map (JV.flat 0)):=by
 have hm:∀k∈so,k<names.length:=fun k hk=>by have:=hp.mem_iff.1 hk;simpa using this
 have hf:(so.map (eS names ts)).map Prod.fst=so.map (nU names):=by
  rw[List.map_map];exact List.map_congr_left (fun k hk=>BL hlen (hm k hk))
 refine⟨⟨ym (by rw[List.length_zip,<-hlen,Nat.min_self];exact hp),by unfold f7;rw[hf];exact hr⟩,hf,by simp,fun i a b ha hb=>?_⟩;rw[List.getElem?_map] at ha;rw[List.getElem?_map,List.getElem?_map,List.getElem?_map] at hb
 cases hk:so[i]? with
 |none=>rw[hk] at ha;simp at ha
 |some k=>
  rw[hk] at ha hb;have hlt:=hm k (Zl hk);have ht:=Zd (l:=ts) (i:=k) (by omega);have a0:=Zd (l:=vs) (i:=k) (by omega);simp only[Option.map_some,Option.some.injEq] at ha hb;rw[Ep hlen ht] at hb;rw[sm a0] at ha;subst ha hb;exact hv.2 k _ _ a0 (by rw[List.getElem?_map,ht];rfl)
theorem hnum (i:Nat):((i+1:Nat):Int)= (i:Int)+1:=by omega
theorem nI {w7:World}{names:List ByteArray}{s2:List Nat}{a:Nat}(hlt:i<names.length)(hp:so.Perm (List.range i))(ha:a<=i)(a3:so.drop a=s2)(hN:N=a+1+s2.length)
  (a0:w7.ownsRow w.heap.size 3 1 v N ((so.take a).map cO ++ [cO i]++s2.map cO)) (hb:Below w.heap.size w w7) (hr:(so.map (nU names)).Pairwise fD) (a2:∀j x,j<a->so[j]?=some x->fD (nU names x) (nU names i)) (a1:∀x,so[a]?=some x->fD (nU names i) (nU names x)) :
  F4 w names v (.int .i64 ((i+1:Nat):Int)) w7:=by
 subst a3;have hl:so.length=i:=by have:=hp.length_eq;simpa using this
 have a4:N=i+1:=by rw[hN,List.length_drop];omega
 subst a4;obtain⟨A,q,rfl,-⟩:=ag a0;refine⟨i+1,so.take a ++ [i]++so.drop a,A,i+1,q,by omega,rfl,rfl,?_,rfl,sk a hp,hb,ux hr a2 a1⟩;unfold bI;have:(so.take a ++ [i]++so.drop a).length=i+1:=by simp;omega
 rw[this,List.map_append,List.map_append];exact a0
theorem mE {t:TypeId}{k:Nat}(E:dq t e z k B)(w:World)(base:Nat)(ty:TypeId)(v:Value)(n:Nat)(xs:List Value)(a0:w.ownsRow base e k v n xs)(c:Nat) :
  (Builtin.append_ #[t,t] ty #[v,.slice none 0 c]).run Tryz.prog w =.ok v w:=by
 obtain⟨i0,hi,a2,a3,a4⟩:=info_parts E.hi;rcases a0.2 with ⟨rfl,rfl⟩|⟨g,cap,cur,rfl,_,_,a1,_⟩
 ·simp[Builtin.append_,run_underlying E.ht,sizeOf,typeInfo,hi,Builtin.lenOf,Builtin.firstCells]
 ·simp[Builtin.append_,run_underlying E.ht,sizeOf,typeInfo,hi,Builtin.lenOf,Builtin.firstCells,a1,storeCells]
theorem kj {t:TypeId}{k:Nat}(E:dq t e z k B){ops:Array Oper}{rest:List Oper}{o:Oper}{a:Act}{Q:Exit->Act->World->Prop}(a1:o.guard=none)(s x:Operand)
  (ho:o.op =.call {callee:=.builtin .append,args:= #[s,x],argTypes:= #[t,t]}) (base:Nat) (v:Value) (n:Nat) (us:List Value) (hs:a.eval s=v) (a0:w.ownsRow base e k v n us) (c:Nat) (hx:a.eval x =.slice none 0 c)
  (h:wpList Tryz.prog ops Q rest (a.put o.dst v) w):wpList Tryz.prog ops Q (o::rest) a w:=
 wpList_plain a1 fun _ hK=>by
  unfold Oper.wp execOp;simp only[ho,resolve,invoke,builtin,Sem.run_bind,Sem.run_pure,Result.andThen_ok,List.map_toArray,List.map_cons,List.map_nil,hs,hx,mE E w base _ v n us a0 c];exact hK _ _ h
theorem o6 (A:Option Addr)(a b q:Nat):(Value.slice A a q).ownBlock= (Value.slice A b q).ownBlock:=by cases A <;> rfl
theorem pt {xs:List Value}(h:w.ownsRow base e 1 (.slice (some ⟨g,0,none⟩) n q) n xs):∀j u,xs[j]?=some u->w.cell? ⟨g,j,none⟩=some u:=fun j u hu=>by
 have hl:xs.length=n:=by have:=h.1;simpa using this
 have:=(List.getElem?_eq_some_iff.1 hu).1;rw[aL h rfl j (by omega),hu]
theorem uJ {vl:Value}{names:List ByteArray}(hn:Sl w vn (names.map dU))(hl:gZ w vl (ts.map (JV.flat 0)))(hlen:names.length=ts.length)(h8:∀s∈names,iH s)(hnl:names.length<=1000000)(hsz:JV.sizes ts<=1000000)
  (hkl:∀t∈ts,∀x∈t.flat 0,x.names.length<=1000000/\∀q∈x.kids,q<=1000000) :
  Calls Tryz.prog 157 #[vn,vl] w (JS w names ts):=by
 obtain⟨hm,A,cap,rfl,h7,hA⟩:=id hn;rw[List.length_map] at hm h7 hA ⊢;obtain⟨vs,k4,i3⟩:=id hl;obtain⟨m9,A2,cap2,rfl,e8,i8⟩:=id k4;have a5:vs.length=ts.length:=by have:=i3.1;simpa using this
 rw[a5] at m9 e8 i8 ⊢;have HA:=Qa hA;have q3:=Qa i8;have Hn:=Qa hn;have Hl:=Qa hl;have k0:=Qa i3;have m2:=Qa a5;have a4:=Qa hlen;have H8:=Qa h8;have r6:=Qa hkl;have t0:ts.length<=1000000:=by omega
 clear hn hl hA i8 k4 i3 a5 hlen h8 hkl;go_enter Tryz.func157,Tryz.ntmps157;go_wp2_with fail
 go_loopw [6,7,8,9] (fun s6 s7 _ _ wr=>F4 w names s6 s7 wr) (fun _ v _ _ _=>names.length - (intOf v).toNat)
 case atStart=>exact⟨0, [],none,0,0,Zk _,rfl,rfl,bI.nil _ _,rfl,by simp,Ze _ _,by simp⟩
 case round=>
  obtain⟨i,so,A6,n6,q6,hi,rfl,rfl,ho,r0,hp,hb,hr⟩:=hrel;subst r0;have b9:so.length=n6:=by have:=hp.length_eq;simpa using this
  unfold bI at ho;rw[b9] at ho;have Hp:=Qa hp;have Ho:=Qa ho;have Hb:=Qa hb;have Hr:=Qa hr;have Hsol:=Qa b9;have n0:=hb.size;obtain⟨_,cq,eq6,t1,q8,l4⟩:=ag ho;injection eq6 with e1 e2 e3
  subst e1 e3;have k3:=Qa l4;clear hp ho hb hr b9 l4 e2
  by_cases hlt:n6<names.length
  ·obtain⟨gn,on,rfl,hcn⟩:=HA.out (by omega);obtain⟨si,l2⟩:∃s,names[n6]?=some s:=⟨_,Zd hlt⟩;have b4:=Qa l2;have f6:=Qa hcn;have q7:(n6:Int)<names.length:=by omega
   clear l2 hcn;obtain⟨wo,rfl⟩:∃wo:World,wo=wr:=⟨_,rfl⟩;go_upto_block 2 with fail
   go_cut [8] (fun s8 wx=>Gw wo names so n6 s8 wx)
   case first=>
    go_wp2_with fail
    go_loopw [8] (fun s8 wx=>IK wo names so n6 s8 wx) (fun v _=>n6 - (intOf v).toNat)
    case atStart=>exact⟨0,Zk _,rfl,Ze _ _,fun j x h=>by omega⟩
    case round=>
     obtain⟨a,ha,rfl,hb,e6⟩:=hrel;have Hbi:=Qa hb;have Hlo:=Qa e6;rw[Hsol.out] at ha;clear hb e6
     by_cases hat:a<n6
     ·obtain⟨z,hz⟩:∃z,so[a]?=some z:=⟨_,Zd (by rw[Hsol.out];exact hat)⟩;obtain⟨g6,rfl⟩:=k3.out (by omega);have g8:z<n6:=by have:=Hp.out.mem_iff.1 (Zl hz);simpa using this
      obtain⟨sz,a0⟩:∃s,names[z]?=some s:=⟨_,Zd (by omega)⟩;have c1:=aL (Ho.out.below' Hbi.out) rfl a (by omega);rw[List.getElem?_map,hz] at c1;simp only[Option.map_some,cO] at c1;have c0:=Hb.out.trans (Hbi.out.mono Hb.out.size);have c2:=Zg c0 (f6.out z (dU sz) (by rw[List.getElem?_map,a0];rfl));have c3:=Zg c0 (f6.out n6 (dU si) (by rw[List.getElem?_map,b4.out];rfl));unfold dU at c2 c3;have g1:=H8.out sz (Zl a0);have f8:=H8.out si (Zl b4.out);have m4:=g1.2;have d5:=f8.2;have Hz:=Qa hz;have a7:=Qa a0;clear hz a0;have h9:(a:Int)<n6:=by omega
      have o1:z<names.length:=by omega
      go_wp2_with fail;refine aA (fun w'=>w'.cell? ⟨g6,a,none⟩=some (.int .i64 z)/\w'.cell? ⟨gn,on+z,none⟩=some (.string sz)/\w'.cell? ⟨gn,on+n6,none⟩=some (.string si)) (⟨c1,c2,c3⟩) fun a1=>?_
      refine tH 0 a1 ?_;refine tH 1 a1 ?_;refine tH 2 a1 ?_;refine tH 3 a1 ?_;refine tH 4 a1 ?_;refine tH 5 a1 ?_
      try simp only[Act.put,jP,jQ,jR]
      refine tH 6 a1 ?_;refine tH 7 a1 ?_;refine tH 8 a1 ?_;refine tH 9 a1 ?_;refine tH 10 a1 ?_;refine tH 11 a1 ?_
      try simp only[Act.put,jP,jQ,jR]
      refine tH 12 a1 ?_;refine tH 13 a1 ?_;refine tH 14 a1 ?_;refine tH 15 a1 ?_
      try simp only[Act.put,jP,jQ,jR]
      refine rH 16 fun K hK=>?_
      go_simp;refine(rq _ sz si (Zc m4 (by decide)) (Zc d5 (by decide))).mono ?_;rintro e w9 ⟨rfl,b2⟩;have b1:=Qa (Hbi.out.trans (((Ze wr.heap.size wr).drew.trans b2).mono Hbi.out.size));go_simp;refine hK.out _ _ (⟨Zg b2 a1.1,Zg b2 a1.2.1,Zg b2 a1.2.2⟩) (fun a1=>?_);clear hK K
      try simp only[Act.put,jP,jQ,jR]
      refine tH 17 a1 ?_
      try simp only[Act.put,jP,jQ,jR]
      refine wpAnyH_done (by kernel_rfl) (NoPanic.normal ?_) _
      by_cases hah:j6 (o9 sz) (o9 si)=true
      ·rw[hah];have Hlt:=Qa ((vb g1 f8).1 hah);go_wp2_with fail;refine⟨⟨a+1,by rw[Hsol.out];omega,by go_num,b1.out,fun j x hj hx=>?_⟩,by simp[intOf];omega⟩
       by_cases hja:j=a
       ·subst hja;have:=hx.symm.trans Hz.out;injection this with this
        subst this;rw[fu a7.out,fu b4.out];exact Hlt.out
       ·exact Hlo.out j x (by omega) hx
      ·have h5:j6 (o9 sz) (o9 si)=false:=by simpa using hah
       have n3:=Qa (fun h=>hah ((vb g1 f8).2 h));rw[h5];clear hah;go_wp2_with fail;go_meet
       case rel=>
        refine⟨a,by rw[Hsol.out];omega,rfl,b1.out,Hlo.out,fun x hx=>?_⟩;have:=hx.symm.trans Hz.out;injection this with this
        subst this;rw[fu a7.out,fu b4.out];exact n3.out
     ·have h9:¬ (a:Int)<n6:=by omega
      go_wp2_with fail;go_quiet (fail);go_wp2_with fail;go_meet
      case rel=>exact⟨a,by rw[Hsol.out];omega,rfl,av Hbi.out _,Hlo.out,fun x hx=>by have:=(List.getElem?_eq_some_iff.1 hx).1;rw[Hsol.out] at this;omega⟩
   case rest=>
    obtain⟨a,ha,rfl,j1,e6,j0⟩:=hcut;rw[Hsol.out] at ha;have Hbi:=Qa j1;have Hlo:=Qa e6;have n4:=Qa j0;clear j1 e6 j0;have c0:=Hb.out.trans (Hbi.out.mono Hb.out.size);have c3:=Zg c0 (f6.out n6 (dU si) (by rw[List.getElem?_map,b4.out];rfl));unfold dU at c3;have h3:=Qa c0;clear c0;go_upto_if 56 with fail
    obtain⟨w3,rfl⟩:∃w3:World,w3=wc:=⟨_,rfl⟩;go_cut [56] (fun s56 wx=>DQ w3 names so n6 a s56 wx)
    case first=>
     by_cases hat:a<n6
     ·obtain⟨z,hz⟩:∃z,so[a]?=some z:=⟨_,Zd (by rw[Hsol.out];exact hat)⟩;obtain⟨g6,rfl⟩:=k3.out (by omega);have g8:z<n6:=by have:=Hp.out.mem_iff.1 (Zl hz);simpa using this
      obtain⟨sz,a0⟩:∃s,names[z]?=some s:=⟨_,Zd (by omega)⟩;have c1:=aL (Ho.out.below' Hbi.out) rfl a (by omega);rw[List.getElem?_map,hz] at c1;simp only[Option.map_some,cO] at c1;have c2:=Zg h3.out (f6.out z (dU sz) (by rw[List.getElem?_map,a0];rfl));unfold dU at c2;have g1:=H8.out sz (Zl a0);have f8:=H8.out si (Zl b4.out);have Hz:=Qa hz;have a7:=Qa a0;clear hz a0;have h9:(a:Int)<n6:=by omega
      have o1:z<names.length:=by omega
      by_cases he:sz=si
      ·have q4:(sz.toList==si.toList)=true:=by rw[jg];simp[he]
       have a6:¬names.Nodup:=fun hd=>by
        have h1:=a7.out;rw[he] at h1;have:=Bj hd h1 b4.out;omega
       have Hdup:=Qa a6;clear he a6;go_wp2_with fail;go_quiet (fail);go_wp2_with fail;go_meet
       case rel=>exact⟨_,rfl,av (Ze _ _) _,(fun _=>Hdup.out),(fun h=>by cases h)⟩
      ·have q4:(sz.toList==si.toList)=false:=by rw[jg];simp[he]
       have Hlt:Hid (∀x,so[a]?=some x->fD (nU names n6) (nU names x)):=Qa (fun x hx=>by
        have h0:=n4.out x hx;have:=hx.symm.trans Hz.out;injection this with this
        subst this;rw[fu a7.out,fu b4.out] at h0 ⊢;exact jm h0 he)
       clear he;go_wp2_with fail;go_quiet (fail);go_wp2_with fail;go_meet
       case rel=>exact⟨_,rfl,av (Ze _ _) _,(fun h=>by cases h),(fun _=>Hlt.out)⟩
     ·have h9:¬ (a:Int)<n6:=by omega
      go_wp2_with fail;go_quiet (fail);go_wp2_with fail;go_meet
      case rel=>exact⟨_,rfl,av (Ze _ _) _,(fun h=>by cases h),fun _ x hx=>by have:=(List.getElem?_eq_some_iff.1 hx).1;rw[Hsol.out] at this;omega⟩
    case rest=>
     obtain⟨b,rfl,g5,a6,d6⟩:=hcut;have Hdup:=Qa a6;have Hlt:=Qa d6;have k2:=Qa g5;have a2:=Qa (h3.out.trans (g5.mono h3.out.size));clear d6 g5 a6
     cases b
     case true=>
      have Hd:=Qa (Hdup.out rfl);clear Hdup;go_wp2_with fail;go_ret2;exact⟨none,0,0,false,rfl,a2.out,⟨(fun h=>by cases h),(fun h=>absurd h Hd.out)⟩,(fun _=>rfl),(fun h=>by cases h)⟩
     have Hlt:=Qa (Hlt.out rfl);obtain⟨w4,l5⟩:∃x,wc=x:=⟨_,rfl⟩;rw[l5] at k2 a2 ⊢;clear l5 Hdup c3;have f0:=Qa ((Ho.out.below' Hbi.out).below' k2.out);have b0:(so.drop a).length=n6 - a:=by rw[List.length_drop,Hsol.out]
     have h4:∀A' c',(a=n6\/∃g6,A6=some ⟨g6,0,none⟩/\A'=some ⟨g6,a,none⟩/\c'=q6 - a)->n6 - a<=c'\/a=n6->Sl w4 (.slice A' (n6 - a) c') ((so.drop a).map cO):=by
      rintro A' c' h hc;refine⟨by rw[List.length_map,b0];unfold maxLen at q8;omega,A',c',by rw[List.length_map,b0],by rw[List.length_map,b0];omega,fun h0=>?_⟩;rw[List.length_map,b0] at h0;rcases h with h|⟨g6,rfl,rfl,rfl⟩
      ·omega
      ·refine⟨g6,a,rfl,fun j u hu=>?_⟩;have hj:=(List.getElem?_eq_some_iff.1 hu).1;rw[List.length_map,b0] at hj;rw[aL f0.out rfl (a+j) (by omega),<-hu,List.getElem?_map,List.getElem?_map,List.getElem?_drop]
     obtain⟨s2,d5⟩:∃l,so.drop a=l:=⟨_,rfl⟩;rw[d5] at h4 b0;have l0:=Qa d5;have m0:=Qa h4;have l3:=Qa b0;clear h4 b0 d5;have a3:=bN f0.out;have d4:=Qa a3;clear a3;go_upto_region 10 with fail
     go_cut [9] (fun s9 wx=> ∃A n q,s9 =.slice A n q/\bI wx w4.heap.size (.slice A n q) s2/\Below w4.heap.size w4 wx)
     case first=>
      have j5:s2.length<=1000000:=by rw[l3.out];omega
      by_cases c7:q6=a
      ·have m3:∀x y:Value,(if q6=a then x else y)=x:=fun x y=>if_pos c7
       have r5:∀x y:Option Addr,(if q6=a then x else y)=x:=fun x y=>if_pos c7
       have p4:=Qa c7;clear c7;go_wp2_with fail;have c7:=p4.out;refine(ul (m0.out _ _ (.inl (by omega)) (.inr (by omega))) j5).mono ?_;clear c7;rintro e w5 ⟨v,rfl,d9,b7⟩;obtain⟨A5,q5,rfl,-⟩:=ag b7;have Hb5:=Qa d9;have Hr5:=Qa b7;clear d9 b7;go_wp2_with fail;go_meet
       case rel=>exact⟨_,_,_,rfl,Hr5.out,Hb5.out⟩
      ·rcases d4.out with ⟨e,h0,-⟩|⟨g6,c6,e,s3,s5,-⟩
       ·injection e with _ _ e;omega
       injection e with e1 _ e3
       subst e1 e3;go_wp2_with fail;refine(ul (m0.out _ _ (.inr ⟨g6,rfl,rfl,rfl⟩) (by omega)) j5).mono ?_;rintro e w5 ⟨v,rfl,d9,b7⟩;obtain⟨A5,q5,rfl,-⟩:=ag b7;have Hb5:=Qa d9;have Hr5:=Qa b7;clear d9 b7;go_wp2_with fail;go_meet
       case rel=>exact⟨_,_,_,rfl,Hr5.out,Hb5.out⟩
     case rest=>
      obtain⟨A9,n9,q9,rfl,i4,b2⟩:=hcut;have f5:=Qa i4;have b1:=Qa b2;have s0:n9=s2.length:=r9 i4;subst s0;obtain⟨w5,j3⟩:∃x,wc=x:=⟨_,rfl⟩;rw[j3] at f5 b1 ⊢;clear i4 b2 j3;have n5:=Qa (Es (ha:=ha) (f0.out.below' b1.out));have g3:w.heap.size<=w5.heap.size:=Zc a2.out.size b1.out.size;have q1:=Qa (show(((so.take a).map cO)).length=a by rw[List.length_map,List.length_take,Hsol.out];omega);have f2:=Qa (n5.out.below' (ac w5 (.cells #[.int .i64 (n6:Int)] 3)));have b0:=l3.out;have s4:a+1+s2.length<=1000001:=by omega
      clear b0;rcases bN f5.out with ⟨e,h0,-⟩|⟨g9,c9,e,t3,t2,-⟩
      ·injection e with e1 e2 e3
       have d2:s2 = []:=by have:=bN f5.out;exact List.eq_nil_of_length_eq_zero h0
       subst e1 e3;have e0:=Qa d2;clear d2;go_wp2_with (first
        |(at_builtin;refine km iz f2.out (ap w5 [cO n6] 3) (by simp;omega) ?_ (h1:=(by simp[cO,Value.oneCell']));intro v' w6 p1 p2 p3;have b5:=Qa p1;have d0:=Qa p2;clear p1 p2 p3)
        |(at_builtin;refine kj iz rfl (.tmp 66) (.tmp 67) rfl w.heap.size v' (a+1) ((so.take a).map cO ++ [cO n6]) (by simp[Act.eval]) b5.out 0 (by simp[Act.eval]) ?_))
       have f4:Below w.heap.size w w6:=aY (((a2.out.trans (b1.out.mono a2.out.size)).alloc g3 _)) f2.out (Zc g3 (by simp)) d0.out;have hN:=hnum n6;exact⟨hN▸nI hlt Hp.out ha l0.out (N:=a+1) (by rw[e0.out];simp) (by rw[e0.out];simpa using b5.out) f4 Hr.out Hlo.out Hlt.out,by simp[intOf];omega⟩
      ·injection e with e1 e2 e3
       subst e1 e3;go_wp2_with (first
        |(at_builtin;refine km iz f2.out (ap w5 [cO n6] 3) (by simp;omega) ?_ (h1:=(by simp[cO,Value.oneCell']));intro v' w6 p1 p2 p3;have b5:=Qa p1;have d0:=Qa p2;have j2:=World.ownsRow.kept (f5.out.below' (ac w5 (.cells #[.int .i64 (n6:Int)] 3))) p2 (.inr (fun e=>by have:=(World.ownsRow.lt f0.out g9 (by rw[<-o6 A6 a n6 q6];exact e.symm)).2;omega));have n1:=Qa (pt j2);clear j2;clear p1 p2 p3)
        |(at_builtin;refine km iz b5.out n1.out (by have:=d0.out.size;simp at this;omega) ?_ (hl:=(by simp)) (h1:=(by intro u hu;obtain⟨x,_,rfl⟩:=List.mem_map.1 hu;rfl));intro v7 w7 p1 p2 p3;have g0:=Qa p1;have f1:=Qa p2;clear p1 p2 p3))
       have f4:Below w.heap.size w w6:=aY (((a2.out.trans (b1.out.mono a2.out.size)).alloc g3 _)) f2.out (Zc g3 (by simp)) d0.out;have p0:Below w.heap.size w w7:=aY f4 b5.out f4.size f1.out;have hN:=hnum n6;exact⟨hN▸nI hlt Hp.out ha l0.out (N:=a+1+s2.length) rfl g0.out p0 Hr.out Hlo.out Hlt.out,by simp[intOf];omega⟩
  ·obtain rfl:n6=names.length:=by omega
   obtain⟨wo,rfl⟩:∃wo:World,wo=wr:=⟨_,rfl⟩;have HFill:=Qa (wt (vs:=vs) Ho.out Hb.out (names:=names));go_wp2_with fail
   go_loopw [10,11,12] (fun s10 s11 s12 wx=>IH w names vs so A6 q6 s10 s11 s12 wx) (fun _ _ v _=>names.length - (intOf v).toNat)
   case atStart=>exact HFill.out
   case round=>
    obtain⟨k,A10,q10,A11,q11,hk,rfl,rfl,rfl,c8,c4,h6,hb⟩:=hrel;have k9:=Qa c8;have k5:=Qa c4;have H6:=Qa h6;have e4:=Qa hb;have a9:=hb.size;clear c8 c4 h6 hb
    by_cases hlt:k<names.length
    ·obtain⟨z,hz⟩:∃z,so[k]?=some z:=⟨_,Zd (by rw[Hsol.out];exact hlt)⟩;have g8:z<names.length:=by have:=Hp.out.mem_iff.1 (Zl hz);simpa using this
     obtain⟨gn,on,rfl,hcn⟩:=HA.out (by omega);obtain⟨g2,o2,rfl,i2⟩:=q3.out (by have:=a4.out;omega);obtain⟨sz,a0⟩:∃s,names[z]?=some s:=⟨_,Zd g8⟩;obtain⟨vz,c5⟩:∃s,vs[z]?=some s:=⟨_,Zd (by have:=a4.out;have:=m2.out;omega)⟩;obtain⟨tz,m1⟩:∃s,ts[z]?=some s:=⟨_,Zd (by have:=a4.out;omega)⟩;have l1:=k0.out.2 z vz _ c5 (by rw[List.getElem?_map,m1];rfl);obtain⟨Az,cz,rfl,-⟩:=l1.form;rw[JV.flat_len] at c5;obtain⟨g6,rfl⟩:=kt H6.out (by omega);have c1:=aL H6.out rfl k (by omega);rw[List.getElem?_map,hz] at c1;simp only[Option.map_some,cO] at c1;have c2:=Zg e4.out (hcn z (dU sz) (by rw[List.getElem?_map,a0];rfl));have c3:=Zg e4.out (i2 z _ c5);unfold dU at c2;have hki:(k:Int)<names.length:=by omega
     have s1:z<ts.length:=by have:=a4.out;omega
     have Hz:=Qa hz;have n2:=Qa a0;have r7:=Qa c5;have o3:=Qa (i2 z _ c5);have r4:=Qa (fun (f:Nat->ByteArray)=>show(so.take (k+1)).map f= (so.take k).map f ++ [f z] by rw[bQ hz,List.map_append];rfl);have q0:=Qa (fun (f:Nat->Value)=>show(so.take (k+1)).map f= (so.take k).map f ++ [f z] by rw[bQ hz,List.map_append];rfl);have g7:=Qa (k9.out.below' (ac wr (.cells #[.string sz] 9)));clear hz a0 c5 m1 l1 hcn i2;go_wp2_with (first
      |(at_builtin;refine km yQ g7.out (ap wr [dU sz] 9) (by simp;omega) ?_ (h1:=(by simp[dU,Value.oneCell']));intro v1 w1 p1 p2 p3;have b5:=Qa p1;have d0:=Qa p2;have f9:=ac wr (.cells #[.string sz] 9);have f3:Below w.heap.size w w1:=aY (e4.out.alloc a9 _) g7.out (Zc a9 f9.size) p2;have i9:=nO g7.out p2;have k1:=Qa (al (H6.out.below' f9) i9 (by decide));have g4:=Qa (al (k5.out.below' f9) i9 (by decide));have m5:=Qa f3;have d1:=(pt k1.out) k _ (by rw[List.getElem?_map,Hz.out];rfl);unfold cO at d1;have d3:=Zg f3 o3.out;have e5:=f3.size;have b8:=Qa (g4.out.below' (ac w1 (.cells #[.slice Az tz.size cz] 28)));clear p1 p2 p3 f9 f3 i9)
      |(at_builtin;refine km mP b8.out (ap w1 [.slice Az tz.size cz] 28) (by simp;omega) ?_;intro v2 w2 p1 p2 p3;have g0:=Qa p1;have f1:=Qa p2;clear p1 p2 p3))
     obtain⟨B1,r1,rfl,-⟩:=ag b5.out;obtain⟨B2,r2,rfl,-⟩:=ag g0.out;have b6:=ac w1 (.cells #[.slice Az tz.size cz] 28);have hkt:=pC b8.out f1.out;refine⟨⟨k+1,B1,r1,B2,r2,by omega,by go_num,rfl,rfl,?_,?_,al (k1.out.below' b6) hkt (by decide),aY (m5.out.alloc e5 _) b8.out (Zc e5 b6.size) f1.out⟩,by simp[intOf];omega⟩
     ·have h1:=al (b5.out.below' b6) hkt (by decide);rw[r4.out,List.map_append,List.map_singleton,fu n2.out];exact h1
     ·have h1:=g0.out;rw[q0.out,sm r7.out];exact h1
    ·obtain rfl:k=names.length:=by omega
     have c8:=k9.out;have c4:=k5.out;rw[List.take_of_length_le (by rw[Hsol.out];exact Zb _)] at c8 c4;have b3:=Qa (EX a4.out m2.out Hp.out Hr.out k0.out);have k6:=Qa (lA.sizes a4.out b3.out.1);have r3:=Qa (uL Hp.out Hr.out);have q2:=Hsol.out;have i5:=Qa (Sl.of_own c8);have i0:=Qa (Sl.of_own c4);clear c8 c4;go_wp2_with fail;refine(oV (names:=so.map (nU names)) (ts:=(so.map (eS names ts)).map Prod.snd) i5.out ⟨so.map (Jg vs),i0.out,b3.out.2.2.mono fun _ _ h=>h.below e4.out (Zb _)⟩ (by rw[List.length_map,q2];exact hnl) (by rw[k6.out.1];exact hsz) (fun t ht x hx=>r6.out t (k6.out.2.1.mem_iff.1 ht) x hx)).mono ?_;rintro e w9 ⟨v,rfl,b2,h2⟩;have a3:∃A n q,v =.slice A n q:=by obtain⟨A,q,e,_⟩:=h2.form;exact⟨_,_,_,e⟩
     obtain⟨A9,n9,q9,rfl⟩:=a3;have b1:=Qa (e4.out.trans (b2.mono a9));have n8:=Qa ((h2.low a9).imp (Q:=(w.heap.size<= ·)) (fun g h _=>Zc a9 h));clear b2 h2;go_wp2_with fail;go_ret2;exact⟨A9,n9,q9,true,rfl,b1.out,⟨fun _=>r3.out,fun _=>rfl⟩,(fun h=>by cases h),fun _=>⟨_,b3.out.1,by rw[b3.out.2.1];exact n8.out⟩⟩
