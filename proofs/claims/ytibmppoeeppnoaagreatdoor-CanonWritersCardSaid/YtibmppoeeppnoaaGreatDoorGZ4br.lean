import Derived.Test.YtibmppoeeppnoaaGreatDoorGZ4bq
set_option linter.unusedVariables false
set_option linter.unusedSimpArgs false
set_option maxHeartbeats 64000000
set_option maxRecDepth 100000
namespace Go.Proofs.YtibmppoeeppnoaaGreatDoor
open Go.RowKit Go.Shelf
variable {aE aU:Addr}{r:Bool}{j:JV}{ns ns':List ByteArray}{ks ks':List JV}{xs xs' ys:List UInt8}{us us':List Value}{c g gr gt n:Nat}{P Q:Nat->Prop}{A:Option Addr}{t:TypeId}{nm u v v' x:Value}{W w w' w1:World}
theorem Eg (hr:∀W,(binOp .eql 41 (.iface 45 (.agg #[])) (.iface 45 (.agg #[]))).run Tryz.prog W =.ok (.bool r) W):Calls Tryz.prog 52 #[.iface 45 (.agg #[]),.iface 45 (.agg #[])] w fun e w'=>e =.returned (.bool r)/\Below w.heap.size w w':=by
 have k1:=iN;go_enter Tryz.func52,Tryz.ntmps52;go_wp2_with fail;(with_reducible refine gI.mono ?_);rintro e w1 ⟨rfl,a0⟩;have a2:=Qa a0;clear a0;go_wp2_with fail;(with_reducible refine gI.mono ?_);rintro e w2 ⟨rfl,a1⟩;have a3:=Qa (a2.out.trans (a1.mono a2.out.size));clear a1;go_wp2_with fail;go_ret;exact⟨rfl,a3.out⟩
theorem EC (hr:∀W,(binOp .eql 41 (.iface 49 (.agg #[])) (.iface 49 (.agg #[]))).run Tryz.prog W =.ok (.bool r) W):Calls Tryz.prog 52 #[.iface 49 (.agg #[]),.iface 49 (.agg #[])] w fun e w'=>e =.returned (.bool r)/\Below w.heap.size w w':=by
 have k1:=me;go_enter Tryz.func52,Tryz.ntmps52;go_wp2_with fail;(with_reducible refine gv.mono ?_);rintro e w1 ⟨rfl,a0⟩;have a2:=Qa a0;clear a0;go_wp2_with fail;(with_reducible refine gv.mono ?_);rintro e w2 ⟨rfl,a1⟩;have a3:=Qa (a2.out.trans (a1.mono a2.out.size));clear a1;go_wp2_with fail;go_ret;exact⟨rfl,a3.out⟩
theorem DR (a b:Bool)(hr:∀W,(binOp .eql 41 (.iface 54 (.bool a)) (.iface 54 (.bool b))).run Tryz.prog W =.ok (.bool r) W):Calls Tryz.prog 52 #[.iface 54 (.bool a),.iface 54 (.bool b)] w fun e w'=>e =.returned (.bool r)/\Below w.heap.size w w':=by
 have k1:=mg;go_enter Tryz.func52,Tryz.ntmps52;go_wp2_with fail;(with_reducible refine gQ.mono ?_);rintro e w1 ⟨rfl,a0⟩;have a2:=Qa a0;clear a0;go_wp2_with fail;(with_reducible refine gQ.mono ?_);rintro e w2 ⟨rfl,a1⟩;have a3:=Qa (a2.out.trans (a1.mono a2.out.size));clear a1;go_wp2_with fail;go_ret;exact⟨rfl,a3.out⟩
theorem Ek (a b:ByteArray)(hr:∀W,(binOp .eql 41 (.iface 55 (.string a)) (.iface 55 (.string b))).run Tryz.prog W =.ok (.bool r) W):Calls Tryz.prog 52 #[.iface 55 (.string a),.iface 55 (.string b)] w fun e w'=>e =.returned (.bool r)/\Below w.heap.size w w':=by
 have k1:=lS;go_enter Tryz.func52,Tryz.ntmps52;go_wp2_with fail;(with_reducible refine gw.mono ?_);rintro e w1 ⟨rfl,a0⟩;have a2:=Qa a0;clear a0;go_wp2_with fail;(with_reducible refine gw.mono ?_);rintro e w2 ⟨rfl,a1⟩;have a3:=Qa (a2.out.trans (a1.mono a2.out.size));clear a1;go_wp2_with fail;go_ret;exact⟨rfl,a3.out⟩
theorem FO (a b:Dc)(hr:∀W,(binOp .eql 41 (.iface 128 (.agg #[.bool a.neg,.string a.digits,.int .i64 a.exp])) (.iface 128 (.agg #[.bool b.neg,.string b.digits,.int .i64 b.exp]))).run Tryz.prog W =.ok (.bool r) W):Calls Tryz.prog 52 #[.iface 128 (.agg #[.bool a.neg,.string a.digits,.int .i64 a.exp]),.iface 128 (.agg #[.bool b.neg,.string b.digits,.int .i64 b.exp])] w fun e w'=>e =.returned (.bool r)/\Below w.heap.size w w':=by
 have k1:=mT;go_enter Tryz.func52,Tryz.ntmps52;go_wp2_with fail;(with_reducible refine iZ.mono ?_);rintro e w1 ⟨rfl,a0⟩;have a2:=Qa a0;clear a0;go_wp2_with fail;(with_reducible refine iZ.mono ?_);rintro e w2 ⟨rfl,a1⟩;have a3:=Qa (a2.out.trans (a1.mono a2.out.size));clear a1;go_wp2_with fail;go_ret;exact⟨rfl,a3.out⟩
theorem Ea {B:Option Addr}(HP:∀w1,Below w.heap.size w w1->Calls Tryz.prog 74 #[.iface 52 (.pointer A),.iface 52 (.pointer B)] w1 fun e w'=>e =.returned (.bool r)/\Below w1.heap.size w1 w'):Calls Tryz.prog 52 #[.iface 52 (.pointer A),.iface 52 (.pointer B)] w fun e w'=>e =.returned (.bool r)/\Below w.heap.size w w':=by
 have k4:=iF;have k5:=lF;have HL:=Qa HP;clear HP;go_enter Tryz.func52,Tryz.ntmps52;go_wp2_with fail;(with_reducible refine em.mono ?_);rintro e w1 ⟨rfl,a1⟩;have a3:=Qa a1;clear a1;go_wp2_with fail;(with_reducible refine em.mono ?_);rintro e w2 ⟨rfl,a2⟩;have a0:=Qa (a3.out.trans (a2.mono a3.out.size));clear a2;go_wp2_with fail;(with_reducible refine(HL.out w2 a0.out).mono ?_);rintro e w4 ⟨rfl,a4⟩;have a5:=Qa (a0.out.trans (a4.mono a0.out.size));clear a4;go_wp2_with fail;go_ret;exact⟨rfl,a5.out⟩
theorem Fb {B:Option Addr}(HP:∀w1,Below w.heap.size w w1->Calls Tryz.prog 74 #[.iface 124 (.pointer A),.iface 124 (.pointer B)] w1 fun e w'=>e =.returned (.bool r)/\Below w1.heap.size w1 w'):Calls Tryz.prog 52 #[.iface 124 (.pointer A),.iface 124 (.pointer B)] w fun e w'=>e =.returned (.bool r)/\Below w.heap.size w w':=by
 have k4:=jM;have k5:=ox;have HL:=Qa HP;clear HP;go_enter Tryz.func52,Tryz.ntmps52;go_wp2_with fail;(with_reducible refine gG.mono ?_);rintro e w1 ⟨rfl,a1⟩;have a3:=Qa a1;clear a1;go_wp2_with fail;(with_reducible refine gG.mono ?_);rintro e w2 ⟨rfl,a2⟩;have a0:=Qa (a3.out.trans (a2.mono a3.out.size));clear a2;go_wp2_with fail;(with_reducible refine(HL.out w2 a0.out).mono ?_);rintro e w4 ⟨rfl,a4⟩;have a5:=Qa (a0.out.trans (a4.mono a0.out.size));clear a4;go_wp2_with fail;go_ret;exact⟨rfl,a5.out⟩
theorem rV {y:Value}{i:TypeInfo}(hi:Tryz.prog.info? t=some i)(hc:i.comparable=true)(h:(Op.equalIn (9997+2) t x y).run Tryz.prog W =.ok r W):(binOp .eql 41 (.iface t x) (.iface t y)).run Tryz.prog W =.ok (.bool r) W:=by
 have h:(Op.equalIn (9996+4) 41 (.iface t x) (.iface t y)).run Tryz.prog W =.ok r W:=by
  rw[Op.equalIn];simp only[Sem.run_bind,run_underlying Tryz.underlying41,Result.andThen_ok];simp[typeInfo,hi,hc,h]
 simp only[binOp];simp[Op.equal,Op.maxDepth,h]
theorem ko (h:(Tryz.prog.info? t).map (·.comparable)=some true):∃i,Tryz.prog.info? t=some i/\i.comparable=true:=by
 obtain⟨i,h1,h2⟩:=Option.map_eq_some_iff.1 h;exact⟨i,h1,h2⟩
theorem Dr (W:World):(binOp .eql 41 (.iface 45 (.agg #[])) (.iface 45 (.agg #[]))).run Tryz.prog W =.ok (.bool true) W:=by
 obtain⟨i,h1,h2⟩:=ko (t:=45) (by kernel_rfl);exact rV h1 h2 (by kernel_rfl)
theorem DL (W:World):(binOp .eql 41 (.iface 49 (.agg #[])) (.iface 49 (.agg #[]))).run Tryz.prog W =.ok (.bool true) W:=by
 obtain⟨i,h1,h2⟩:=ko (t:=49) (by kernel_rfl);exact rV h1 h2 (by kernel_rfl)
theorem DW (a b:Bool)(W:World):(binOp .eql 41 (.iface 54 (.bool a)) (.iface 54 (.bool b))).run Tryz.prog W =.ok (.bool (a==b)) W:=by
 obtain⟨i,h1,h2⟩:=ko (t:=54) (by kernel_rfl);exact rV h1 h2 (by kernel_rfl)
theorem Dl (a b:ByteArray)(W:World):(binOp .eql 41 (.iface 55 (.string a)) (.iface 55 (.string b))).run Tryz.prog W =.ok (.bool (a.toList==b.toList)) W:=by
 obtain⟨i,h1,h2⟩:=ko (t:=55) (by kernel_rfl);exact rV h1 h2 (run_equalIn_string W 9998 55 a b Tryz.underlying55)
theorem Em (d:Nat)(a b:Bool)(s t:ByteArray)(x y:Int)(W:World):(Op.equalIn (d+3) 125 (.agg #[.bool a,.string s,.int .i64 x]) (.agg #[.bool b,.string t,.int .i64 y])).run Tryz.prog W =.ok ((a==b)&& (s.toList==t.toList)&& (x==y)) W:=by
 rw[run_equalIn_agg W (d+2) 125 _ _ (by kernel_rfl) (by kernel_rfl)];have hf:((Tryz.prog.fieldsOf 125).toList.map fun f=>(decide (f.name = "_"),f.type,f.offset)) = [(false,4,0),(false,9,1),(false,3,2)]:=by kernel_rfl
 obtain⟨f1,f2,f3,h1,h2,h3,h4,h5,h6,h7,h8,h9,a0⟩:∃f1 f2 f3,(Tryz.prog.fieldsOf 125).toList = [f1,f2,f3]/\¬f1.name = "_" /\¬f2.name = "_" /\¬f3.name = "_" /\f1.type=4/\f2.type=9/\f3.type=3/\f1.offset=0/\f2.offset=1/\f3.offset=2:=by
  generalize (Tryz.prog.fieldsOf 125).toList=fs at hf
  cases fs with
  |nil=>simp at hf
  |cons f1 r=>cases r with
   |nil=>simp at hf
   |cons f2 r2=>cases r2 with
    |nil=>simp at hf
    |cons f3 r3=>cases r3 with
     |cons f4 r4=>simp at hf
     |nil=>
      simp only[List.map_cons,List.map_nil,List.cons.injEq,Prod.mk.injEq,decide_eq_false_iff_not,and_true] at hf;exact⟨f1,f2,f3,rfl,hf.1.1,hf.2.1.1,hf.2.2.1,hf.1.2.1,hf.2.1.2.1,hf.2.2.2.1,hf.1.2.2,hf.2.1.2.2,hf.2.2.2.2⟩
 have p1:∀ (a b c:Value) (w:World),(part 4 #[a,b,c] 0).run Tryz.prog w =.ok a w:=fun a b c w=>by kernel_rfl
 have p2:∀ (a b c:Value) (w:World),(part 9 #[a,b,c] 1).run Tryz.prog w =.ok b w:=fun a b c w=>by kernel_rfl
 have p3:∀ (a b c:Value) (w:World),(part 3 #[a,b,c] 2).run Tryz.prog w =.ok c w:=fun a b c w=>by kernel_rfl
 rw[h1];have hs:=run_equalIn_string W (d+1) 9 s t Tryz.underlying9;have hq:(Op.equalIn (d+1+1) 4 (.bool a) (.bool b)).run Tryz.prog W =.ok (a==b) W:=by kernel_rfl
 have hi:=run_equalIn_int W (d+1) 3 .i64 .i64 x y Tryz.underlying3;generalize (s.toList==t.toList)=v at hs ⊢;generalize (a==b)=u at hq ⊢;generalize (x==y)=z at hi ⊢
 cases u <;> cases v <;> cases z <;> simp[Op.eqFields,h2,h3,h4,h5,h6,h7,h8,h9,a0,p1,p2,p3,hi,hs,hq]
theorem Eb (d:Nat)(a b:Bool)(s t:ByteArray)(x y:Int)(W:World):(Op.equalIn (d+4) 128 (.agg #[.bool a,.string s,.int .i64 x]) (.agg #[.bool b,.string t,.int .i64 y])).run Tryz.prog W =.ok ((a==b)&& (s.toList==t.toList)&& (x==y)) W:=by
 rw[run_equalIn_agg W (d+3) 128 _ _ (by kernel_rfl) (by kernel_rfl)];have hf:((Tryz.prog.fieldsOf 128).toList.map fun f=>(decide (f.name = "_"),f.type,f.offset)) = [(false,125,0)]:=by kernel_rfl
 obtain⟨f1,h1,h2,h3,h4⟩:∃f1,(Tryz.prog.fieldsOf 128).toList = [f1]/\¬f1.name = "_" /\f1.type=125/\f1.offset=0:=by
  generalize (Tryz.prog.fieldsOf 128).toList=fs at hf
  cases fs with
  |nil=>simp at hf
  |cons f1 r=>cases r with
   |cons f2 r2=>simp at hf
   |nil=>
    simp only[List.map_cons,List.map_nil,List.cons.injEq,Prod.mk.injEq,decide_eq_false_iff_not,and_true] at hf;exact⟨f1,rfl,hf.1,hf.2.1,hf.2.2⟩
 have p1:∀ (a b c:Value) (w:World),(part 125 #[a,b,c] 0).run Tryz.prog w =.ok (.agg #[a,b,c]) w:=fun a b c w=>by kernel_rfl
 rw[h1];have hs:=Em d a b s t x y W;generalize ((a==b)&& (s.toList==t.toList)&& (x==y))=v at hs ⊢
 cases v <;> simp[Op.eqFields,h2,h3,h4,p1,hs]
theorem E9 (a b:Dc)(W:World):(binOp .eql 41 (.iface 128 (.agg #[.bool a.neg,.string a.digits,.int .i64 a.exp])) (.iface 128 (.agg #[.bool b.neg,.string b.digits,.int .i64 b.exp]))).run Tryz.prog W =.ok (.bool ((a.neg==b.neg)&& (a.digits.toList==b.digits.toList)&& (a.exp==b.exp))) W:=by
 obtain⟨i,h1,h2⟩:=ko (t:=128) (by kernel_rfl);exact rV h1 h2 (Eb 9995 _ _ _ _ _ _ W)
def OV (P:Nat->Prop)(w:World)(v:Value):Option JV->Prop
 |none=>v =.nilIface
 |some j=>VW P w v j
theorem OV.later {j:Option JV}(h:OV P w v j)(hb:Below w.heap.size w w'):OV P w' v j:=by
 cases j with
 |none=>exact h
 |some j=>exact VW.later h hb
theorem VW.kind_pos (h:VW P w v j):0<j.kindOf:=by cases h <;> simp[JV.kindOf]
theorem rf {a:JV}(ha:VW P w v a):Calls Tryz.prog 32 #[v,.nilIface] w (iw 1 w):=by
 have hp:=ha.kind_pos;have H1:=Qa (dY ha);obtain⟨t1,x1,rfl⟩:=ha.iface;clear ha;generalize a.kindOf=ka at *;have Hs:Hid (sg ka 0=1):=Qa (by unfold sg;rw[if_neg (by omega),if_pos hp]);clear hp;go_enter Tryz.func32,Tryz.ntmps32;go_wp2_with fail;(with_reducible refine H1.out.mono ?_);rintro e w1 ⟨rfl,a0⟩;have a2:=Qa a0;clear a0;go_wp2_with fail;(with_reducible refine fT.mono ?_);rintro e w2 ⟨rfl,a1⟩;have a3:=Qa (a2.out.trans (a1.mono a2.out.size));clear a1;go_wp2_with fail;(with_reducible refine aY.mono ?_);rintro e w3 ⟨rfl,rfl⟩;rw[Hs.out];go_wp2_with fail;go_ret;exact⟨rfl,a3.out⟩
theorem p8 {a:JV}(ha:VW P w v a):Calls Tryz.prog 32 #[.nilIface,v] w (iw (-1) w):=by
 have hp:=ha.kind_pos;have H1:=Qa (fun w1 (h:Below w.heap.size w w1)=>dY (ha.later h));obtain⟨t1,x1,rfl⟩:=ha.iface;clear ha;generalize a.kindOf=ka at *;have Hs:Hid (sg 0 ka = -1):=Qa (by unfold sg;rw[if_pos hp]);clear hp;go_enter Tryz.func32,Tryz.ntmps32;go_wp2_with fail;(with_reducible refine fT.mono ?_);rintro e w1 ⟨rfl,a0⟩;have H2:=Qa (H1.out w1 a0);have a2:=Qa a0;clear a0;go_wp2_with fail;(with_reducible refine H2.out.mono ?_);rintro e w2 ⟨rfl,a1⟩;have a3:=Qa (a2.out.trans (a1.mono a2.out.size));clear a1;go_wp2_with fail;(with_reducible refine aY.mono ?_);rintro e w3 ⟨rfl,rfl⟩;rw[Hs.out];go_wp2_with fail;go_ret;exact⟨rfl,a3.out⟩
theorem Ez (W:World):(Instr.typeAssert .nilIface 41 54 true).run Tryz.prog W =.ok (.tuple #[.bool false,.bool false]) W:=by kernel_rfl
theorem F3 (W:World):(Instr.typeAssert .nilIface 41 128 true).run Tryz.prog W =.ok (.tuple #[.agg #[.bool false,.string ⟨#[]⟩,.int .i64 0],.bool false]) W:=by kernel_rfl
theorem Dy (W:World):(Instr.typeAssert .nilIface 41 55 true).run Tryz.prog W =.ok (.tuple #[.string ⟨#[]⟩,.bool false]) W:=by kernel_rfl
theorem E6 (W:World):(Instr.typeAssert .nilIface 41 113 true).run Tryz.prog W =.ok (.tuple #[.nilIface,.bool false]) W:=by kernel_rfl
theorem Db:Calls Tryz.prog 32 #[.nilIface,.nilIface] w (iw 0 w):=by
 have n1:=Ez;have n2:=F3;have n3:=Dy;have n4:=E6;go_enter Tryz.func32,Tryz.ntmps32;go_wp2_with fail;(with_reducible refine fT.mono ?_);rintro e w1 ⟨rfl,a0⟩;have a2:=Qa a0;clear a0;go_wp2_with fail;(with_reducible refine fT.mono ?_);rintro e w2 ⟨rfl,a1⟩;have a3:=Qa (a2.out.trans (a1.mono a2.out.size));clear a1;go_wp2_with fail;(with_reducible refine aY.mono ?_);rintro e w3 ⟨rfl,rfl⟩;rw[show sg 0 0=0 from rfl];go_wp2_with fail;go_ret;exact⟨rfl,a3.out⟩
theorem uc (j:JV):∃t,j.key=j.kindOf::t:=by obtain⟨k,t,x,n,ns,ks⟩:=j;unfold JV.key;exact⟨_,rfl⟩
theorem qw {a b:Option JV}(ha:OV P w v a)(hb:OV Q w v' b)(hT:cW w)(hG:co w aU aE)(ja:∀j,a=some j->JB j)(jb:∀j,b=some j->JB j):Calls Tryz.prog 32 #[v,v'] w (iw (sF a b) w):=by
 cases a with
 |none=>
  obtain rfl:v =.nilIface:=ha
  cases b with
  |none=>obtain rfl:v' =.nilIface:=hb;exact Db
  |some b=>
   have hb:VW Q w v' b:=hb;have e:sF none (some b) = -1:=by
    obtain⟨t,ht⟩:=uc b
    show aw [0] b.key = -1
    rw[ht,bi,if_pos hb.kind_pos]
   rw[e];exact p8 hb
 |some a=>
  have ha:VW P w v a:=ha
  cases b with
  |none=>
   obtain rfl:v' =.nilIface:=hb;have e:sF (some a) none=1:=by
    obtain⟨t,ht⟩:=uc a;have:=ha.kind_pos
    show aw a.key [0]=1
    rw[ht,bi,if_neg (by omega),if_pos this]
   rw[e];exact rf ha
  |some b=>exact tV ha hT hG (ja a rfl) hb (jb b rfl) w (Zd _ _)
theorem iY {a b:Option JV}(ha:OV P w v a)(hb:OV Q w v' b)(hT:cW w)(hG:co w aU aE)(ja:∀j,a=some j->JB j)(jb:∀j,b=some j->JB j):Calls Tryz.prog 16 #[v,v'] w (iw (sF a b) w):=by
 have H:=Qa (qw ha hb hT hG ja jb);clear ha hb hT hG ja jb;generalize sF a b=c at *;go_enter Tryz.func16,Tryz.ntmps16;go_wp2_with fail;(with_reducible refine H.out.mono ?_);rintro e w2 ⟨rfl,a0⟩;go_wp2_with fail;go_ret;exact⟨rfl,a0⟩
theorem Cv (a b:ByteArray):(a.toList==b.toList)=decide (a=b):=by
 rw[ET]
 congr 1
 rw[ByteArray.toList_eq]
theorem sO {B:Option Addr}(ha:da P w A us ks)(hb:da Q w B us' ks')(hT:cW w)(h1:Below w.heap.size w w1)(hr:r=true↔ks=ks')
  (H:∀ (i:Nat) u u' k k',us[i]?=some u->ks[i]?=some k->us'[i]?=some u'->ks'[i]?=some k'->∀w1,Below w.heap.size w w1->Calls Tryz.prog 52 #[u,u'] w1 fun e w'=>e =.returned (.bool (vo k k'))/\Below w1.heap.size w1 w') :
  Calls Tryz.prog 52 #[.iface 52 (.pointer A),.iface 52 (.pointer B)] w1 fun e w'=>e =.returned (.bool r)/\Below w1.heap.size w1 w':=by
 refine Ea fun w2 h2=>?_
 have h3:=h1.trans (h2.mono h1.size);refine qP (ha.below h3) (hb.below h3) (hT.below h3) hr fun i u u' k k' e1 e2 e3 e4 w4 h4=>?_
 exact H i u u' k k' e1 e2 e3 e4 w4 (h3.trans (h4.mono h3.size))
theorem Ee {B:Option Addr}(ha:eD P w A us ns ks)(hb:eD Q w B us' ns' ks')(h1:Below w.heap.size w w1)(hr:r=true↔ns=ns'/\ks=ks')
  (H:∀ (i:Nat) u u' k k',us[i]?=some u->ks[i]?=some k->us'[i]?=some u'->ks'[i]?=some k'->∀w1,Below w.heap.size w w1->Calls Tryz.prog 52 #[u,u'] w1 fun e w'=>e =.returned (.bool (vo k k'))/\Below w1.heap.size w1 w') :
  Calls Tryz.prog 52 #[.iface 124 (.pointer A),.iface 124 (.pointer B)] w1 fun e w'=>e =.returned (.bool r)/\Below w1.heap.size w1 w':=by
 refine Fb fun w2 h2=>?_
 have h3:=h1.trans (h2.mono h1.size);refine tj (ha.below h3) (hb.below h3) hr fun i u u' k k' e1 e2 e3 e4 w4 h4=>?_
 exact H i u u' k k' e1 e2 e3 e4 w4 (h3.trans (h4.mono h3.size))
theorem eO {a b:JV}(h:a.kindOf≠b.kindOf):vo a b=false:=k8.2 fun e=>h (by rw[e])
theorem zI {a:JV}(ha:VW P w v a)(hT:cW w):∀ {Q:Nat->Prop} {v':Value} {b:JV},VW Q w v' b->∀w1,Below w.heap.size w w1->Calls Tryz.prog 52 #[v,v'] w1 fun e w'=>e =.returned (.bool (vo a b))/\Below w1.heap.size w1 w':=by
 induction ha with
 |null=>
  intro Q v' b hb w1 h1
  by_cases hk:b.kindOf=1
  ·cases hb with
   |null=>rw[dt.2 rfl];exact Eg Dr
   |bool|num|text|hole|bare|list|obj=>simp[JV.kindOf] at hk
  ·rw[eO (fun e=>hk e.symm)];exact fS (P:=P) (Q:=Q) .null (hb.later h1) (fun e=>hk e.symm)
 |hole=>
  intro Q v' b hb w1 h1
  by_cases hk:b.kindOf=7
  ·cases hb with
   |hole=>rw[dt.2 rfl];exact EC DL
   |bool|num|text|null|bare|list|obj=>simp[JV.kindOf] at hk
  ·rw[eO (fun e=>hk e.symm)];exact fS (P:=P) (Q:=Q) .hole (hb.later h1) (fun e=>hk e.symm)
 |bool x=>
  intro Q v' b hb w1 h1
  by_cases hk:b.kindOf=2
  ·cases hb with
   |bool y=>
    have e:vo (.mk 2 x es ⟨false,es,0⟩ [] []) (.mk 2 y es ⟨false,es,0⟩ [] [])= (x==y):=by
     rw[Bool.eq_iff_iff,dt];simp
    rw[e];exact DR x y (DW x y)
   |hole|num|text|null|bare|list|obj=>simp[JV.kindOf] at hk
  ·rw[eO (fun e=>hk e.symm)];exact fS (P:=P) (Q:=Q) (.bool x) (hb.later h1) (fun e=>hk e.symm)
 |num d=>
  intro Q v' b hb w1 h1
  by_cases hk:b.kindOf=3
  ·cases hb with
   |num y=>
    have e:vo (.mk 3 false es d [] []) (.mk 3 false es y [] [])= ((d.neg==y.neg)&& (d.digits.toList==y.digits.toList)&& (d.exp==y.exp)):=by
     rw[Bool.eq_iff_iff,dt,Cv];obtain⟨d1,d2,d3⟩:=d;obtain⟨y1,y2,y3⟩:=y;simp[and_assoc]
    rw[e];exact FO d y (E9 d y)
   |hole|bool|text|null|bare|list|obj=>simp[JV.kindOf] at hk
  ·rw[eO (fun e=>hk e.symm)];exact fS (P:=P) (Q:=Q) (.num d) (hb.later h1) (fun e=>hk e.symm)
 |text s=>
  intro Q v' b hb w1 h1
  by_cases hk:b.kindOf=4
  ·cases hb with
   |text y=>
    have e:vo (.mk 4 false s ⟨false,es,0⟩ [] []) (.mk 4 false y ⟨false,es,0⟩ [] [])= (s.toList==y.toList):=by
     rw[Bool.eq_iff_iff,dt,Cv];simp
    rw[e];exact Ek s y (Dl s y)
   |hole|bool|num|null|bare|list|obj=>simp[JV.kindOf] at hk
  ·rw[eO (fun e=>hk e.symm)];exact fS (P:=P) (Q:=Q) (.text s) (hb.later h1) (fun e=>hk e.symm)
 |bare=>
  intro Q v' b hb w1 h1
  by_cases hk:b.kindOf=5
  ·have a0:=hb;obtain⟨ks',rfl⟩:∃ks',b =.mk 5 false es ⟨false,es,0⟩ [] ks':=by cases hb <;> first|exact⟨_,rfl⟩|simp[JV.kindOf] at hk
   obtain⟨B,us',rfl,hL,hK⟩:=a0.asList;refine sO (P:=P) (us:= []) (.inl ⟨rfl,rfl,rfl⟩) hL hT h1 (dt.trans (by simp)) fun i u u' k k' e1=>?_
   simp at e1
  ·rw[eO (fun e=>hk e.symm)];exact fS (P:=P) (Q:=Q) .bare (hb.later h1) (fun e=>hk e.symm)
 |list g A c us ks hp hg hr hl hks ih=>
  intro Q v' b hb w1 h1
  by_cases hk:b.kindOf=5
  ·have a0:=hb;obtain⟨ks',rfl⟩:∃ks',b =.mk 5 false es ⟨false,es,0⟩ [] ks':=by cases hb <;> first|exact⟨_,rfl⟩|simp[JV.kindOf] at hk
   obtain⟨B,us',rfl,hL,hK⟩:=a0.asList;refine sO (P:=P) (.inr ⟨g,A,c,rfl,hg,hr,hl⟩) hL hT h1 (dt.trans (by simp)) fun i u u' k k' e1 e2 e3 e4 w2 h2=>?_
   exact ih i u k e1 e2 (hK i u' k' e3 e4) w2 h2
  ·rw[eO (fun e=>hk e.symm)];exact fS (P:=P) (Q:=Q) ((VW.list g A c us ks hp hg hr hl hks).later h1) (hb.later h1) (fun e=>hk e.symm)
 |obj g A c us ns ks hp hg hr hl hn hks ih=>
  intro Q v' b hb w1 h1
  by_cases hk:b.kindOf=6
  ·have a0:=hb;obtain⟨ns',ks',rfl⟩:∃ns' ks',b =.mk 6 false es ⟨false,es,0⟩ ns' ks':=by cases hb <;> first|exact⟨_,_,rfl⟩|simp[JV.kindOf] at hk
   obtain⟨B,us',rfl,hL,hK⟩:=a0.asObj;refine Ee (P:=P) ⟨g,A,c,rfl,hg,hr,hl,hn⟩ hL h1 (dt.trans (by simp)) fun i u u' k k' e1 e2 e3 e4 w2 h2=>?_
   exact ih i u k e1 e2 (hK i u' k' e3 e4) w2 h2
  ·rw[eO (fun e=>hk e.symm)];exact fS (P:=P) (Q:=Q) ((VW.obj g A c us ns ks hp hg hr hl hn hks).later h1) (hb.later h1) (fun e=>hk e.symm)
theorem zE {a b:JV}(ha:VW P w v a)(hb:VW Q w v' b)(hT:cW w):Calls Tryz.prog 31 #[v,v'] w fun e w'=>e =.returned (.bool (vo a b))/\Below w.heap.size w w':=by
 have H:=Qa (zI ha hT hb w (Zd _ _));obtain⟨t1,x1,rfl⟩:=ha.iface;obtain⟨t2,x2,rfl⟩:=hb.iface;clear ha hb hT;generalize vo a b=c at *;go_enter Tryz.func31,Tryz.ntmps31;go_wp2_with fail;(with_reducible refine H.out.mono ?_);rintro e w2 ⟨rfl,a0⟩;go_wp2_with fail;go_ret;exact⟨rfl,a0⟩
theorem sQ (hE:qV w aU aE)(hM:kA w)(hT:cW w)(hb:Bs w v xs)(h0:0<xs.length)(hl:xs.length<=1000000000)(hp:eU xs=some j)(tx:Tx j)(sz:Sz j)(hx:(JV.txt j).length<=140737488355328) :
  Calls Tryz.prog 14 #[v] w (BX (JV.txt j) w):=by
 have H:=Qa (j6 hE hM hb h0 hl hp);have HB:=Qa (fun u w1 (hw:Below w.heap.size w w1) (hv:VW (w.heap.size<= ·) w1 u j)=>fc hv (hT.below hw) (hE.glob.below hw) tx sz hx);clear hE hM hT hb h0 hl hp tx sz hx;generalize JV.txt j=tl at *;go_enter Tryz.func14,Tryz.ntmps14;go_wp2_with fail;(with_reducible refine H.out.mono ?_);rintro e w1 ⟨u,rfl,a1,hv⟩;have a0:=Qa a1;have a4:=Qa (HB.out u w1 a1 hv);obtain⟨t1,x1,rfl⟩:=hv.iface;clear a1 hv HB;go_wp2_with fail;(with_reducible refine a4.out.mono ?_);rintro e w2 ⟨u2,rfl,ho,a2⟩;have a3:=Qa (a0.out.trans (a2.mono a0.out.size));have Ho:=Qa (bZ ho a0.out.size);obtain⟨A,q,rfl,-⟩:=ag ho;clear ho a2;go_wp2_with fail;go_ret2;exact⟨_,rfl,Ho.out,a3.out⟩
theorem CJ {j':JV}(hE:qV w aU aE)(hM:kA w)(hT:cW w)(hb:Bs w v xs)(h0:0<xs.length)(hl:xs.length<=1000000000)(hp:eU xs=some j)(a9:Bs w v' xs')(a5:0<xs'.length)(a6:xs'.length<=1000000000)(b0:eU xs'=some j') :
  Calls Tryz.prog 15 #[v,v'] w fun e w'=>e =.returned (.tuple #[.bool (vo j j'),.nilIface])/\Below w.heap.size w w':=by
 have H:=Qa (j6 hE hM hb h0 hl hp);have H2:=Qa (fun w1 (hw:Below w.heap.size w w1)=>j6 (hE.below hw) (hM.below hw) (a9.below hw) a5 a6 b0);have HT:=Qa hT;clear hE hM hT hb h0 hl hp a9 a5 a6 b0;go_enter Tryz.func15,Tryz.ntmps15;go_wp2_with fail;(with_reducible refine H.out.mono ?_);rintro e w1 ⟨u,rfl,a3,hv⟩;have a4:=Qa a3;have Hv:=Qa hv;have b1:=Qa (H2.out w1 a3);obtain⟨t1,x1,rfl⟩:=hv.iface;clear a3 hv;go_wp2_with fail;(with_reducible refine b1.out.mono ?_);rintro e w2 ⟨u2,rfl,a1,a2⟩;have a0:=Qa (a4.out.trans (a1.mono a4.out.size));have HQ:=Qa (zE (Hv.out.later a1) a2 (HT.out.below a0.out));obtain⟨t2,x2,rfl⟩:=a2.iface;clear a1 a2;go_wp2_with fail;(with_reducible refine HQ.out.mono ?_);rintro e w3 ⟨rfl,a7⟩;have b2:=Qa (a0.out.trans (a7.mono a0.out.size));clear a7;go_wp2_with fail;go_ret2;exact⟨rfl,b2.out⟩
theorem om (h:Bs w v xs)(h':Bs w v' ys):Calls Tryz.prog 35 #[v,v'] w fun e w'=>e =.returned (.bool (decide (xs=ys)))/\w=w':=by
 have c1:=aJ h;have c2:=aJ h';have He:Hid (((⟨xs.toArray⟩:ByteArray).toList== (⟨ys.toArray⟩:ByteArray).toList)=decide (xs=ys)):=Qa (by
  rw[kx,kx,Bool.eq_iff_iff];simp)
 clear h h';generalize (⟨xs.toArray⟩:ByteArray)=a at *;generalize (⟨ys.toArray⟩:ByteArray)=b at *;go_enter Tryz.func35,Tryz.ntmps35;go_wp2_with fail;go_ret;rw[<-He.out];exact⟨rfl,rfl⟩
theorem Bo (hE:qV w aU aE)(hM:kA w)(hT:cW w)(hb:Bs w v xs)(h0:0<xs.length)(hl:xs.length<=1000000000)(hp:eU xs=some j)(tx:Tx j)(sz:Sz j)(hx:(JV.txt j).length<=140737488355328) :
  Calls Tryz.prog 20 #[v] w fun e w'=>e =.returned (.bool (decide (xs=JV.txt j)))/\Below w.heap.size w w':=by
 have H:=Qa (sQ hE hM hT hb h0 hl hp tx sz hx);have HE:=Qa (fun w1 u (hw:Below w.heap.size w w1) (ho:aq w1 w.heap.size u (JV.txt j))=>om (hb.below hw) (aq.bs ho));clear hE hM hT hb h0 hl hp tx sz hx;go_enter Tryz.func20,Tryz.ntmps20;go_wp2_with fail;(with_reducible refine H.out.mono ?_);rintro e w1 ⟨u,rfl,ho,a0⟩;have a1:=Qa a0;have HQ:=Qa (HE.out w1 u a0 ho);obtain⟨A,q,rfl,-⟩:=ag ho;clear ho a0;go_wp2_with fail;(with_reducible refine HQ.out.mono ?_);rintro e w2 ⟨rfl,rfl⟩;go_wp2_with fail;go_ret;exact⟨rfl,a1.out⟩
def IE (x:Value)(w:World)(e:Ending)(w':World):Prop:=e =.returned (.tuple #[.slice none 0 0,x])/\Below w.heap.size w w'
theorem Au {a:Addr}(hN:w.cell? ⟨0,0,none⟩=some (bl a)):Calls Tryz.prog 10 #[.nilIface] w (IE (bl a) w):=by
 have a1:Below w.heap.size w ((w.alloc (.cells #[.slice none 0 0] 22)).alloc (.cells #[.nilIface] 36)):=((Zd _ _).alloc (Za _) _).alloc (by simp) _;have h0:((w.alloc (.cells #[.slice none 0 0] 22)).alloc (.cells #[.nilIface] 36)).heap[w.heap.size]?=some (.cells #[.slice none 0 0] 22 (0,0)):=(Below.heap_alloc _ _ _ (by simp)).trans (Ze w _);have h1:((w.alloc (.cells #[.slice none 0 0] 22)).alloc (.cells #[.nilIface] 36)).heap[w.heap.size+1]?=some (.cells #[.nilIface] 36 (0,0)):=by
  have:=Ze (w.alloc (.cells #[.slice none 0 0] 22)) (.cells #[.nilIface] 36)
  rwa[World.size_alloc] at this
 have cN:=Zf a1 hN;have a5:0<w.heap.size:=World.block_lt_of_cell? w _ hN;have a3:=Qa a1;have H0:=Qa h0;have H1:=Qa h1;clear a1 h0 h1 hN;go_enter_defers Tryz.func10,Tryz.ntmps10;go_wp2_with fail;generalize (w.alloc (.cells #[.slice none 0 0] 22)).alloc (.cells #[.nilIface] 36)=w1 at *;have c0:=aa H0.out (j:=0) (u:=.slice none 0 0) rfl;have f0:=aj H0.out 0;have c1:=aa H1.out (j:=0) (u:=.nilIface) rfl;have f1:=aj H1.out 0;refine aO (fun w'=>w'.cell? ⟨0,0,none⟩=some (bl a)/\(w'.heap[w.heap.size]?=some (.cells #[.slice none 0 0] 22 (0,0)))/\(∃z,w'.heap[w.heap.size+1]?=some (.cells #[z] 36 (0,0)))) (⟨cN,H0.out,_,H1.out⟩) fun a0=>?_
 refine tH 0 a0 ?_
 try simp only[Act.put,jP,jQ,jR]
 refine rH 1 fun K hK=>?_
 go_simp;refine hK.out _ _ ((by obtain⟨q1,q2,z,q3⟩:=a0;exact⟨(World.cell?_of_block (Below.heap_setCell _ ⟨w.heap.size,0,none⟩ _ 0 (by show _≠w.heap.size;omega))).trans q1,au q2 0 (.slice none 0 0),z,ar _ (w.heap.size+1) w.heap.size 0 (.slice none 0 0) _ _ (by omega) q3⟩)) (fun a0=>?_);clear hK K
 try simp only[Act.put,jP,jQ,jR]
 refine rH 2 fun K hK=>?_
 go_simp;refine hK.out _ _ ((by obtain⟨q1,q2,z,q3⟩:=a0;exact⟨(World.cell?_of_block (Below.heap_setCell _ ⟨w.heap.size+1,0,none⟩ _ 0 (by show _≠w.heap.size+1;omega))).trans q1,ar _ w.heap.size (w.heap.size+1) 0 (bl a) _ _ (by omega) q2,_,au q3 0 (bl a)⟩)) (fun a0=>?_);clear hK K
 try simp only[Act.put,jP,jQ,jR]
 refine wpAnyH_done (by kernel_rfl) (NoPanic.normal ?_) _;obtain⟨a2,d0,d1⟩:=rr H0.out H1.out a3.out (.slice none 0 0) (bl a);rw[show(Value.iface 406 (.pointer (some a)))=bl a from rfl];have a4:=a2.drew;have e0:((w1.setCell ⟨w.heap.size,0,none⟩ (.slice none 0 0)).setCell ⟨w.heap.size+1,0,none⟩ (bl a)).drew.cell? ⟨w.heap.size,0,none⟩=some (.slice none 0 0):=d0;have e1:((w1.setCell ⟨w.heap.size,0,none⟩ (.slice none 0 0)).setCell ⟨w.heap.size+1,0,none⟩ (bl a)).drew.cell? ⟨w.heap.size+1,0,none⟩=some (bl a):=d1;clear d0 d1 a2 c0 c1 f0 f1 a0;generalize ((w1.setCell ⟨w.heap.size,0,none⟩ (.slice none 0 0)).setCell ⟨w.heap.size+1,0,none⟩ (bl a)).drew=w4 at *;go_wp2_with fail;simp[bodyPostD,Leaves,settle,results,Tryz.results10,go_sem,e0,e1];exact⟨rfl,a4⟩
theorem xr:Calls Tryz.prog 24 #[.iface 49 (.agg #[])] w fun e w'=>e =.returned (.bool true)/\Below w.heap.size w w':=by
 have a2:=Qa (show Below w.heap.size w (w.alloc (.cells #[.bool false] 4)) from(Zd _ _).alloc (Za _) _);have Hk:=Qa (Bx.new w 4 (.bool false));go_enter Tryz.func24,Tryz.ntmps24;go_wp2_with fail;(with_reducible refine gv.mono ?_);rintro e w1 ⟨rfl,a1⟩;have a5:=Qa (a2.out.trans (a1.mono a2.out.size));have a0:=Hk.out.later a1;have a7:=a0.cell;have a6:=a0.frozen;have a3:=Qa (a0.set (.bool true)).cell;clear a1 a0;go_wp2_with fail;refine Zg (v:=.bool true) ?_ rfl ⟨rfl,a5.out.setCell (p:=⟨w.heap.size,0,none⟩) (Za _) _⟩;have a4:=a3.out;simp[results,Tryz.results24,go_sem,a4]
theorem xl {a:Addr}(hN:w.cell? ⟨1,0,none⟩=some (bl a)):Calls Tryz.prog 10 #[.iface 49 (.agg #[])] w (IE (bl a) w):=by
 have a3:Below w.heap.size w ((w.alloc (.cells #[.slice none 0 0] 22)).alloc (.cells #[.nilIface] 36)):=((Zd _ _).alloc (Za _) _).alloc (by simp) _;have h0:((w.alloc (.cells #[.slice none 0 0] 22)).alloc (.cells #[.nilIface] 36)).heap[w.heap.size]?=some (.cells #[.slice none 0 0] 22 (0,0)):=(Below.heap_alloc _ _ _ (by simp)).trans (Ze w _);have h1:((w.alloc (.cells #[.slice none 0 0] 22)).alloc (.cells #[.nilIface] 36)).heap[w.heap.size+1]?=some (.cells #[.nilIface] 36 (0,0)):=by
  have:=Ze (w.alloc (.cells #[.slice none 0 0] 22)) (.cells #[.nilIface] 36)
  rwa[World.size_alloc] at this
 have cN:=Zf a3 hN;have a6:1<w.heap.size:=World.block_lt_of_cell? w _ hN;have a2:=Qa a3;have H0:=Qa h0;have H1:=Qa h1;clear a3 h0 h1 hN;go_enter_defers Tryz.func10,Tryz.ntmps10;go_wp2_with fail;generalize (w.alloc (.cells #[.slice none 0 0] 22)).alloc (.cells #[.nilIface] 36)=w1 at *;(with_reducible refine xr.mono ?_);rintro e w2 ⟨rfl,a1⟩;replace cN:=Zf a1 cN;replace H0:=Qa (ai H0.out a1);replace H1:=Qa (ai H1.out a1);replace a2:=Qa (a2.out.trans (a1.mono a2.out.size));clear a1;go_wp2_with fail;have c0:=aa H0.out (j:=0) (u:=.slice none 0 0) rfl;have f0:=aj H0.out 0;have c1:=aa H1.out (j:=0) (u:=.nilIface) rfl;have f1:=aj H1.out 0;refine aO (fun w'=>w'.cell? ⟨1,0,none⟩=some (bl a)/\(w'.heap[w.heap.size]?=some (.cells #[.slice none 0 0] 22 (0,0)))/\(∃z,w'.heap[w.heap.size+1]?=some (.cells #[z] 36 (0,0)))) (⟨cN,H0.out,_,H1.out⟩) fun a0=>?_
 refine tH 0 a0 ?_
 try simp only[Act.put,jP,jQ,jR]
 refine rH 1 fun K hK=>?_
 go_simp;refine hK.out _ _ ((by obtain⟨q1,q2,z,q3⟩:=a0;exact⟨(World.cell?_of_block (Below.heap_setCell _ ⟨w.heap.size,0,none⟩ _ 1 (by show _≠w.heap.size;omega))).trans q1,au q2 0 (.slice none 0 0),z,ar _ (w.heap.size+1) w.heap.size 0 (.slice none 0 0) _ _ (by omega) q3⟩)) (fun a0=>?_);clear hK K
 try simp only[Act.put,jP,jQ,jR]
 refine rH 2 fun K hK=>?_
 go_simp;refine hK.out _ _ ((by obtain⟨q1,q2,z,q3⟩:=a0;exact⟨(World.cell?_of_block (Below.heap_setCell _ ⟨w.heap.size+1,0,none⟩ _ 1 (by show _≠w.heap.size+1;omega))).trans q1,ar _ w.heap.size (w.heap.size+1) 0 (bl a) _ _ (by omega) q2,_,au q3 0 (bl a)⟩)) (fun a0=>?_);clear hK K
 try simp only[Act.put,jP,jQ,jR]
 refine wpAnyH_done (by kernel_rfl) (NoPanic.normal ?_) _;obtain⟨a4,d0,d1⟩:=rr H0.out H1.out a2.out (.slice none 0 0) (bl a);rw[show(Value.iface 406 (.pointer (some a)))=bl a from rfl];have a5:=a4.drew;have e0:((w2.setCell ⟨w.heap.size,0,none⟩ (.slice none 0 0)).setCell ⟨w.heap.size+1,0,none⟩ (bl a)).drew.cell? ⟨w.heap.size,0,none⟩=some (.slice none 0 0):=d0;have e1:((w2.setCell ⟨w.heap.size,0,none⟩ (.slice none 0 0)).setCell ⟨w.heap.size+1,0,none⟩ (bl a)).drew.cell? ⟨w.heap.size+1,0,none⟩=some (bl a):=d1;clear d0 d1 a4 c0 c1 f0 f1 a0;generalize ((w2.setCell ⟨w.heap.size,0,none⟩ (.slice none 0 0)).setCell ⟨w.heap.size+1,0,none⟩ (bl a)).drew=w4 at *;go_wp2_with fail;simp[bodyPostD,Leaves,settle,results,Tryz.results10,go_sem,e0,e1];exact⟨rfl,a5⟩
theorem jJ:Calls Tryz.prog 6 #[] w fun e w'=>e =.returned (.pointer (some ⟨w.heap.size,0,none⟩))/\w'.heap[w.heap.size]?=some (.cells #[.slice none 0 0,.nilIface] 73 (0,0))/\Below w.heap.size w w':=by
 have h0:=Qa (Ze w (.cells #[.slice none 0 0,.nilIface] 73));have hb:=Qa (ac w (.cells #[.slice none 0 0,.nilIface] 73));go_enter Tryz.func6,Tryz.ntmps6;go_wp2_with fail;go_ret;exact⟨rfl,h0.out,hb.out⟩
theorem mV {d:Value}(h:w.heap[g]?=some (.cells #[.slice A 0 c,d] 73 (0,0))):Calls Tryz.prog 33 #[.pointer (some ⟨g,0,none⟩)] w fun e w'=>e =.returned .nilIface/\w=w':=by
 have c0:=aa h (j:=0) (u:=.slice A 0 c) rfl;clear h;go_enter Tryz.func33,Tryz.ntmps33;go_wp2_with fail;go_ret;exact⟨rfl,rfl⟩
theorem Bi {d:Value}(h:w.heap[g]?=some (.cells #[.slice (some ⟨gr,0,none⟩) (n+1) c,d] 73 (0,0)))(hn:n<1000000000)(hu:w.cell? ⟨gr,n,none⟩=some u):Calls Tryz.prog 33 #[.pointer (some ⟨g,0,none⟩)] w fun e w'=>e =.returned u/\∃m,w'=w.drewN m:=by
 have c0:=aa h (j:=0) (u:=.slice (some ⟨gr,0,none⟩) (n+1) c) rfl;have s1:IntKind.i64.wrap (n:Int)= (n:Int):=IntWalk.i64_in _ (by omega);have s2:(n:Int)< (n:Int)+1:=by omega
 have s3:((n:Int)+1==0)=false:=by simp only[beq_eq_false_iff_ne];omega
 clear h;go_enter Tryz.func33,Tryz.ntmps33;go_wp2_with fail;go_quiet (fail);go_wp2_with fail;go_ret;exact⟨rfl,_,rfl⟩
theorem qT:Calls Tryz.prog 292 #[x] w fun e w'=>e =.returned (.bool true)/\w=w':=by
 go_enter Tryz.func292,Tryz.ntmps292;go_wp2_with fail;go_ret;exact⟨rfl,rfl⟩
theorem mR {m:Value}{b:Bool}(h:w.heap[g]?=some (.cells #[m,nm,.bool b] 92 (0,0))):Calls Tryz.prog 295 #[.pointer (some ⟨g,0,none⟩)] w fun e w'=>e =.returned (.bool b)/\w=w':=by
 have c0:=aa h (j:=2) (u:=.bool b) rfl;clear h;go_enter Tryz.func295,Tryz.ntmps295;go_wp2_with fail;go_ret;exact⟨rfl,rfl⟩
theorem tI (h:w.heap[g]?=some (.cells #[.slice A 0 c,.nilIface] 73 (0,0))):Calls Tryz.prog 28 #[.pointer (some ⟨g,0,none⟩)] w fun e w'=>e =.returned (.bool true)/\Below w.heap.size w w':=by
 have c1:=aa h (j:=1) (u:=.nilIface) rfl;have H:=Qa (mV h);clear h;go_enter Tryz.func28,Tryz.ntmps28;go_wp2_with fail;(with_reducible refine H.out.mono ?_);rintro e w1 ⟨rfl,rfl⟩;go_wp2_with fail;go_ret;exact⟨rfl,Zd _ _⟩
theorem uW (h:w.heap[g]?=some (.cells #[.slice A 0 c,.iface t x] 73 (0,0))):Calls Tryz.prog 28 #[.pointer (some ⟨g,0,none⟩)] w fun e w'=>e =.returned (.bool false)/\Below w.heap.size w w':=by
 have c1:=aa h (j:=1) (u:=.iface t x) rfl;have H:=Qa (mV h);clear h;go_enter Tryz.func28,Tryz.ntmps28;go_wp2_with fail;(with_reducible refine H.out.mono ?_);rintro e w1 ⟨rfl,rfl⟩;go_wp2_with fail;go_ret;exact⟨rfl,Zd _ _⟩
theorem xC (H:Calls Tryz.prog 33 #[.pointer (some ⟨g,0,none⟩)] w fun e w'=>e =.returned (.iface 85 x)/\Below w.heap.size w w'):Calls Tryz.prog 28 #[.pointer (some ⟨g,0,none⟩)] w fun e w'=>e =.returned (.bool true)/\Below w.heap.size w w':=by
 go_enter Tryz.func28,Tryz.ntmps28;go_wp2_with fail;(with_reducible refine H.mono ?_);rintro e w1 ⟨rfl,hb⟩;go_wp2_with fail;(with_reducible refine qT.mono ?_);rintro e w2 ⟨rfl,rfl⟩;go_wp2_with fail;go_ret;exact⟨rfl,hb⟩
theorem pW {m:Value}{b:Bool}(h:w.heap[gt]?=some (.cells #[m,nm,.bool b] 92 (0,0)))(H:Calls Tryz.prog 33 #[.pointer (some ⟨g,0,none⟩)] w fun e w'=>e =.returned (.iface 89 (.pointer (some ⟨gt,0,none⟩)))/\Below w.heap.size w w'):Calls Tryz.prog 28 #[.pointer (some ⟨g,0,none⟩)] w fun e w'=>e =.returned (.bool b)/\Below w.heap.size w w':=by
 have HT:=Qa (fun w1 (hw:Below w.heap.size w w1)=>mR (ai h hw));clear h;go_enter Tryz.func28,Tryz.ntmps28;go_wp2_with fail;(with_reducible refine H.mono ?_);rintro e w1 ⟨rfl,hb⟩;have a0:=Qa (HT.out w1 hb);go_wp2_with fail;(with_reducible refine a0.out.mono ?_);rintro e w2 ⟨rfl,rfl⟩;go_wp2_with fail;go_ret;exact⟨rfl,hb⟩
