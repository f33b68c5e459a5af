import Derived.Test.YtpkdfmjdhmpopaaGreatDoorGZ3bs
set_option linter.unusedVariables false
set_option linter.unusedSimpArgs false
set_option maxHeartbeats 64000000
set_option maxRecDepth 100000
namespace Go.Proofs.YtpkdfmjdhmpopaaGreatDoor
open Go.RowKit Go.Shelf
variable {aE aU : Addr} {r : Bool} {j : JV} {ns ns' : List ByteArray} {ks ks' : List JV} {xs xs' ys : List UInt8} {us us' : List Value} {base c g gr gt n : Nat} {P Q : Nat -> Prop} {A : Option Addr} {t : TypeId} {nm u v v' x : Value} {W w w' w1 : World}
theorem tg {y:Value}{i:TypeInfo}(hi:Tryz.prog.info? t=some i)(hc:i.comparable=true)(h: (Op.equalIn (9997+2) t x y).run Tryz.prog W = .ok r W): (binOp .eql 32 (.iface t x) (.iface t y)).run Tryz.prog W = .ok (.bool r) W:=by
 have h: (Op.equalIn (9996+4) 32 (.iface t x) (.iface t y)).run Tryz.prog W = .ok r W:=by
  rw [Op.equalIn];simp only [Sem.run_bind,run_underlying Tryz.underlying32,Result.andThen_ok];simp [typeInfo,hi,hc,h]
 simp only [binOp];simp [Op.equal,Op.maxDepth,h]
theorem kD (h: (Tryz.prog.info? t).map (·.comparable)=some true):∃i,Tryz.prog.info? t=some i/\i.comparable=true:=by
 obtain⟨i,h1,h2⟩:=Option.map_eq_some_iff.1 h;exact⟨i,h1,h2⟩
theorem Ec (W:World): (binOp .eql 32 (.iface 58 (.agg #[])) (.iface 58 (.agg #[]))).run Tryz.prog W = .ok (.bool true) W:=by
 obtain⟨i,h1,h2⟩:=kD (t:=58) (by kernel_rfl);exact tg h1 h2 (by kernel_rfl)
theorem C7 (W:World): (binOp .eql 32 (.iface 54 (.agg #[])) (.iface 54 (.agg #[]))).run Tryz.prog W = .ok (.bool true) W:=by
 obtain⟨i,h1,h2⟩:=kD (t:=54) (by kernel_rfl);exact tg h1 h2 (by kernel_rfl)
theorem Ds (a b:Bool)(W:World): (binOp .eql 32 (.iface 59 (.bool a)) (.iface 59 (.bool b))).run Tryz.prog W = .ok (.bool (a==b)) W:=by
 obtain⟨i,h1,h2⟩:=kD (t:=59) (by kernel_rfl);exact tg h1 h2 (by kernel_rfl)
theorem DH (a b:ByteArray)(W:World): (binOp .eql 32 (.iface 60 (.string a)) (.iface 60 (.string b))).run Tryz.prog W = .ok (.bool (a.toList==b.toList)) W:=by
 obtain⟨i,h1,h2⟩:=kD (t:=60) (by kernel_rfl);exact tg h1 h2 (run_equalIn_string W 9998 60 a b Tryz.underlying60)
theorem CV (d:Nat)(a b:Bool)(s t:ByteArray)(x y:Int)(W:World): (Op.equalIn (d+3) 48 (.agg #[.bool a, .string s, .int .i64 x]) (.agg #[.bool b, .string t, .int .i64 y])).run Tryz.prog W = .ok ((a==b)&& (s.toList==t.toList)&& (x==y)) W:=by
 rw [run_equalIn_agg W (d+2) 48 _ _ (by kernel_rfl) (by kernel_rfl)];have hf: ((Tryz.prog.fieldsOf 48).toList.map fun f=>(decide (f.name = "_"),f.type,f.offset)) = [(false,4,0),(false,9,1),(false,3,2)]:=by kernel_rfl
 obtain⟨f1,f2,f3,h1,h2,h3,h4,h5,h6,h7,h8,h9,a0⟩:∃f1 f2 f3,(Tryz.prog.fieldsOf 48).toList = [f1,f2,f3]/\¬f1.name = "_" /\¬f2.name = "_" /\¬f3.name = "_" /\f1.type=4/\f2.type=9/\f3.type=3/\f1.offset=0/\f2.offset=1/\f3.offset=2:=by
  generalize (Tryz.prog.fieldsOf 48).toList=fs at hf
  cases fs with
  | nil=>simp at hf
  | cons f1 r=>cases r with
   | nil=>simp at hf
   | cons f2 r2=>cases r2 with
    | nil=>simp at hf
    | cons f3 r3=>cases r3 with
     | cons f4 r4=>simp at hf
     | nil=>
      simp only [List.map_cons,List.map_nil,List.cons.injEq,Prod.mk.injEq,decide_eq_false_iff_not,and_true] at hf;exact⟨f1,f2,f3,rfl,hf.1.1,hf.2.1.1,hf.2.2.1,hf.1.2.1,hf.2.1.2.1,hf.2.2.2.1,hf.1.2.2,hf.2.1.2.2,hf.2.2.2.2⟩
 have p1:∀ (a b c:Value) (w:World),(part 4 #[a,b,c] 0).run Tryz.prog w = .ok a w:=fun a b c w=>by kernel_rfl
 have p2:∀ (a b c:Value) (w:World),(part 9 #[a,b,c] 1).run Tryz.prog w = .ok b w:=fun a b c w=>by kernel_rfl
 have p3:∀ (a b c:Value) (w:World),(part 3 #[a,b,c] 2).run Tryz.prog w = .ok c w:=fun a b c w=>by kernel_rfl
 rw [h1];have hs:=run_equalIn_string W (d+1) 9 s t Tryz.underlying9;have hq: (Op.equalIn (d+1+1) 4 (.bool a) (.bool b)).run Tryz.prog W = .ok (a==b) W:=by kernel_rfl
 have hi:=run_equalIn_int W (d+1) 3 .i64 .i64 x y Tryz.underlying3;generalize (s.toList==t.toList)=v at hs ⊢;generalize (a==b)=u at hq ⊢;generalize (x==y)=z at hi ⊢
 cases u <;> cases v <;> cases z <;> simp [Op.eqFields,h2,h3,h4,h5,h6,h7,h8,h9,a0,p1,p2,p3,hi,hs,hq]
theorem Dx (d:Nat)(a b:Bool)(s t:ByteArray)(x y:Int)(W:World): (Op.equalIn (d+4) 50 (.agg #[.bool a, .string s, .int .i64 x]) (.agg #[.bool b, .string t, .int .i64 y])).run Tryz.prog W = .ok ((a==b)&& (s.toList==t.toList)&& (x==y)) W:=by
 rw [run_equalIn_agg W (d+3) 50 _ _ (by kernel_rfl) (by kernel_rfl)];have hf: ((Tryz.prog.fieldsOf 50).toList.map fun f=>(decide (f.name = "_"),f.type,f.offset)) = [(false,48,0)]:=by kernel_rfl
 obtain⟨f1,h1,h2,h3,h4⟩:∃f1,(Tryz.prog.fieldsOf 50).toList = [f1]/\¬f1.name = "_" /\f1.type=48/\f1.offset=0:=by
  generalize (Tryz.prog.fieldsOf 50).toList=fs at hf
  cases fs with
  | nil=>simp at hf
  | cons f1 r=>cases r with
   | cons f2 r2=>simp at hf
   | nil=>
    simp only [List.map_cons,List.map_nil,List.cons.injEq,Prod.mk.injEq,decide_eq_false_iff_not,and_true] at hf;exact⟨f1,rfl,hf.1,hf.2.1,hf.2.2⟩
 have p1:∀ (a b c:Value) (w:World),(part 48 #[a,b,c] 0).run Tryz.prog w = .ok (.agg #[a,b,c]) w:=fun a b c w=>by kernel_rfl
 rw [h1];have hs:=CV d a b s t x y W;generalize ((a==b)&& (s.toList==t.toList)&& (x==y))=v at hs ⊢
 cases v <;> simp [Op.eqFields,h2,h3,h4,p1,hs]
theorem FQ (a b:Dc)(W:World): (binOp .eql 32 (.iface 50 (.agg #[.bool a.neg, .string a.digits, .int .i64 a.exp])) (.iface 50 (.agg #[.bool b.neg, .string b.digits, .int .i64 b.exp]))).run Tryz.prog W = .ok (.bool ((a.neg==b.neg)&& (a.digits.toList==b.digits.toList)&& (a.exp==b.exp))) W:=by
 obtain⟨i,h1,h2⟩:=kD (t:=50) (by kernel_rfl);exact tg h1 h2 (Dx 9995 _ _ _ _ _ _ W)
def OV (P:Nat->Prop)(w:World)(v:Value):Option JV->Prop
 | none=>v = .nilIface
 | some j=>VW P w v j
theorem OV.later {j:Option JV}(h:OV P w v j)(hb:Below w.heap.size w w'):OV P w' v j:=by
 cases j with
 | none=>exact h
 | some j=>exact VW.later h hb
theorem VW.kind_pos (h:VW P w v j):0<j.kindOf:=by cases h <;> simp [JV.kindOf]
theorem p9 {a:JV}(ha:VW P w v a):Calls Tryz.prog 30 #[v, .nilIface] w (iB 1 w):=by
 have hp:=ha.kind_pos;have H1:=Qa (eh ha);obtain⟨t1,x1,rfl⟩:=ha.iface;clear ha;generalize a.kindOf=ka at *;have Hs:Hid (sg ka 0=1):=Qa (by unfold sg;rw [if_neg (by omega),if_pos hp]);clear hp;go_enter Tryz.func30,Tryz.ntmps30;go_wp2_with fail;(with_reducible refine H1.out.mono ?_);rintro e w1 ⟨rfl,a1⟩;have a0:=Qa a1;clear a1;go_wp2_with fail;(with_reducible refine gc.mono ?_);rintro e w2 ⟨rfl,a2⟩;have a3:=Qa (a0.out.trans (a2.mono a0.out.size));clear a2;go_wp2_with fail;(with_reducible refine bh.mono ?_);rintro e w3 ⟨rfl,rfl⟩;rw [Hs.out];go_wp2_with fail;go_ret;exact⟨rfl,a3.out⟩
theorem qD {a:JV}(ha:VW P w v a):Calls Tryz.prog 30 #[.nilIface,v] w (iB (-1) w):=by
 have hp:=ha.kind_pos;have H1:=Qa (fun w1 (h:Below w.heap.size w w1)=>eh (ha.later h));obtain⟨t1,x1,rfl⟩:=ha.iface;clear ha;generalize a.kindOf=ka at *;have Hs:Hid (sg 0 ka = -1):=Qa (by unfold sg;rw [if_pos hp]);clear hp;go_enter Tryz.func30,Tryz.ntmps30;go_wp2_with fail;(with_reducible refine gc.mono ?_);rintro e w1 ⟨rfl,a0⟩;have H2:=Qa (H1.out w1 a0);have a2:=Qa a0;clear a0;go_wp2_with fail;(with_reducible refine H2.out.mono ?_);rintro e w2 ⟨rfl,a1⟩;have a3:=Qa (a2.out.trans (a1.mono a2.out.size));clear a1;go_wp2_with fail;(with_reducible refine bh.mono ?_);rintro e w3 ⟨rfl,rfl⟩;rw [Hs.out];go_wp2_with fail;go_ret;exact⟨rfl,a3.out⟩
theorem CY (W:World): (Instr.typeAssert .nilIface 32 59 true).run Tryz.prog W = .ok (.tuple #[.bool false, .bool false]) W:=by kernel_rfl
theorem Ff (W:World): (Instr.typeAssert .nilIface 32 50 true).run Tryz.prog W = .ok (.tuple #[.agg #[.bool false, .string ⟨#[]⟩, .int .i64 0], .bool false]) W:=by kernel_rfl
theorem Dk (W:World): (Instr.typeAssert .nilIface 32 60 true).run Tryz.prog W = .ok (.tuple #[.string ⟨#[]⟩, .bool false]) W:=by kernel_rfl
theorem FZ (W:World): (Instr.typeAssert .nilIface 32 124 true).run Tryz.prog W = .ok (.tuple #[.nilIface, .bool false]) W:=by kernel_rfl
theorem BV:Calls Tryz.prog 30 #[.nilIface, .nilIface] w (iB 0 w):=by
 have n1:=CY;have n2:=Ff;have n3:=Dk;have n4:=FZ;go_enter Tryz.func30,Tryz.ntmps30;go_wp2_with fail;(with_reducible refine gc.mono ?_);rintro e w1 ⟨rfl,a2⟩;have a1:=Qa a2;clear a2;go_wp2_with fail;(with_reducible refine gc.mono ?_);rintro e w2 ⟨rfl,a0⟩;have a3:=Qa (a1.out.trans (a0.mono a1.out.size));clear a0;go_wp2_with fail;(with_reducible refine bh.mono ?_);rintro e w3 ⟨rfl,rfl⟩;rw [show sg 0 0=0 from rfl];go_wp2_with fail;go_ret;exact⟨rfl,a3.out⟩
theorem rY (j:JV):∃t,j.key=j.kindOf::t:=by obtain⟨k,t,x,n,ns,ks⟩:=j;unfold JV.key;exact⟨_,rfl⟩
theorem rr {a b:Option JV}(ha:OV P w v a)(hb:OV Q w v' b)(hT:dt w)(hG:cG w aU aE)(ja:∀j,a=some j->JB j)(jb:∀j,b=some j->JB j):Calls Tryz.prog 30 #[v,v'] w (iB (nQ a b) w):=by
 cases a with
 | none=>
  obtain rfl:v = .nilIface:=ha
  cases b with
  | none=>obtain rfl:v' = .nilIface:=hb;exact BV
  | some b=>
   have hb:VW Q w v' b:=hb;have e:nQ none (some b) = -1:=by
    obtain⟨t,ht⟩:=rY b
    show aG [0] b.key = -1
    rw [ht,bk,if_pos hb.kind_pos]
   rw [e];exact qD hb
 | some a=>
  have ha:VW P w v a:=ha
  cases b with
  | none=>
   obtain rfl:v' = .nilIface:=hb;have e:nQ (some a) none=1:=by
    obtain⟨t,ht⟩:=rY a;have:=ha.kind_pos
    show aG a.key [0]=1
    rw [ht,bk,if_neg (by omega),if_pos this]
   rw [e];exact p9 ha
  | some b=>exact rN ha hT hG (ja a rfl) hb (jb b rfl) w (Zd _ _)
theorem fT {a b:Option JV}(ha:OV P w v a)(hb:OV Q w v' b)(hT:dt w)(hG:cG w aU aE)(ja:∀j,a=some j->JB j)(jb:∀j,b=some j->JB j):Calls Tryz.prog 10 #[v,v'] w (iB (nQ a b) w):=by
 have H:=Qa (rr ha hb hT hG ja jb);clear ha hb hT hG ja jb;generalize nQ a b=c at *;go_enter Tryz.func10,Tryz.ntmps10;go_wp2_with fail;(with_reducible refine H.out.mono ?_);rintro e w2 ⟨rfl,a0⟩;go_wp2_with fail;go_ret;exact⟨rfl,a0⟩
theorem AF (a b:ByteArray): (a.toList==b.toList)=decide (a=b):=by
 rw [EB]
 congr 1
 rw [ByteArray.toList_eq]
theorem ug {B:Option Addr}(ha:dk P w A us ks)(hb:dk Q w B us' ks')(hT:dt w)(h1:Below w.heap.size w w1)(hr:r=true↔ks=ks')
  (H:∀ (i:Nat) u u' k k',us[i]?=some u->ks[i]?=some k->us'[i]?=some u'->ks'[i]?=some k'->∀w1,Below w.heap.size w w1->Calls Tryz.prog 29 #[u,u'] w1 fun e w'=>e = .returned (.bool (oD k k'))/\Below w1.heap.size w1 w') :
  Calls Tryz.prog 29 #[.iface 57 (.pointer A), .iface 57 (.pointer B)] w1 fun e w'=>e = .returned (.bool r)/\Below w1.heap.size w1 w':=by
 refine DC fun w2 h2=> ?_
 have h3:=h1.trans (h2.mono h1.size);refine rl (ha.below h3) (hb.below h3) (hT.below h3) hr fun i u u' k k' e1 e2 e3 e4 w4 h4=> ?_
 exact H i u u' k k' e1 e2 e3 e4 w4 (h3.trans (h4.mono h3.size))
theorem Do {B:Option Addr}(ha:eS P w A us ns ks)(hb:eS Q w B us' ns' ks')(h1:Below w.heap.size w w1)(hr:r=true↔ns=ns'/\ks=ks')
  (H:∀ (i:Nat) u u' k k',us[i]?=some u->ks[i]?=some k->us'[i]?=some u'->ks'[i]?=some k'->∀w1,Below w.heap.size w w1->Calls Tryz.prog 29 #[u,u'] w1 fun e w'=>e = .returned (.bool (oD k k'))/\Below w1.heap.size w1 w') :
  Calls Tryz.prog 29 #[.iface 119 (.pointer A), .iface 119 (.pointer B)] w1 fun e w'=>e = .returned (.bool r)/\Below w1.heap.size w1 w':=by
 refine EU fun w2 h2=> ?_
 have h3:=h1.trans (h2.mono h1.size);refine uC (ha.below h3) (hb.below h3) hr fun i u u' k k' e1 e2 e3 e4 w4 h4=> ?_
 exact H i u u' k k' e1 e2 e3 e4 w4 (h3.trans (h4.mono h3.size))
theorem eL {a b:JV}(h:a.kindOf≠b.kindOf):oD a b=false:=fi.2 fun e=>h (by rw [e])
theorem yh {a:JV}(ha:VW P w v a)(hT:dt w):∀ {Q:Nat->Prop} {v':Value} {b:JV},VW Q w v' b->∀w1,Below w.heap.size w w1->Calls Tryz.prog 29 #[v,v'] w1 fun e w'=>e = .returned (.bool (oD a b))/\Below w1.heap.size w1 w':=by
 induction ha with
 | null=>
  intro Q v' b hb w1 h1
  by_cases hk:b.kindOf=1
  ·cases hb with
   | null=>rw [bV.2 rfl];exact Eb Ec
   | bool | num | text | hole | bare | list | obj=>simp [JV.kindOf] at hk
  ·rw [eL (fun e=>hk e.symm)];exact fW (P:=P) (Q:=Q) .null (hb.later h1) (fun e=>hk e.symm)
 | hole=>
  intro Q v' b hb w1 h1
  by_cases hk:b.kindOf=7
  ·cases hb with
   | hole=>rw [bV.2 rfl];exact DS C7
   | bool | num | text | null | bare | list | obj=>simp [JV.kindOf] at hk
  ·rw [eL (fun e=>hk e.symm)];exact fW (P:=P) (Q:=Q) .hole (hb.later h1) (fun e=>hk e.symm)
 | bool x=>
  intro Q v' b hb w1 h1
  by_cases hk:b.kindOf=2
  ·cases hb with
   | bool y=>
    have e:oD (.mk 2 x es ⟨false,es,0⟩ [] []) (.mk 2 y es ⟨false,es,0⟩ [] [])= (x==y):=by
     rw [Bool.eq_iff_iff,bV];simp
    rw [e];exact DI x y (Ds x y)
   | hole | num | text | null | bare | list | obj=>simp [JV.kindOf] at hk
  ·rw [eL (fun e=>hk e.symm)];exact fW (P:=P) (Q:=Q) (.bool x) (hb.later h1) (fun e=>hk e.symm)
 | num d=>
  intro Q v' b hb w1 h1
  by_cases hk:b.kindOf=3
  ·cases hb with
   | num y=>
    have e:oD (.mk 3 false es d [] []) (.mk 3 false es y [] [])= ((d.neg==y.neg)&& (d.digits.toList==y.digits.toList)&& (d.exp==y.exp)):=by
     rw [Bool.eq_iff_iff,bV,AF];obtain⟨d1,d2,d3⟩:=d;obtain⟨y1,y2,y3⟩:=y;simp [and_assoc]
    rw [e];exact Fq d y (FQ d y)
   | hole | bool | text | null | bare | list | obj=>simp [JV.kindOf] at hk
  ·rw [eL (fun e=>hk e.symm)];exact fW (P:=P) (Q:=Q) (.num d) (hb.later h1) (fun e=>hk e.symm)
 | text s=>
  intro Q v' b hb w1 h1
  by_cases hk:b.kindOf=4
  ·cases hb with
   | text y=>
    have e:oD (.mk 4 false s ⟨false,es,0⟩ [] []) (.mk 4 false y ⟨false,es,0⟩ [] [])= (s.toList==y.toList):=by
     rw [Bool.eq_iff_iff,bV,AF];simp
    rw [e];exact DF s y (DH s y)
   | hole | bool | num | null | bare | list | obj=>simp [JV.kindOf] at hk
  ·rw [eL (fun e=>hk e.symm)];exact fW (P:=P) (Q:=Q) (.text s) (hb.later h1) (fun e=>hk e.symm)
 | bare=>
  intro Q v' b hb w1 h1
  by_cases hk:b.kindOf=5
  ·have a0:=hb
   obtain⟨ks',rfl⟩:∃ks',b = .mk 5 false es ⟨false,es,0⟩ [] ks':=by cases hb <;> first | exact⟨_,rfl⟩ | simp [JV.kindOf] at hk
   obtain⟨B,us',rfl,hL,hK⟩:=a0.asList;refine ug (P:=P) (us:= []) (.inl ⟨rfl,rfl,rfl⟩) hL hT h1 (bV.trans (by simp)) fun i u u' k k' e1=> ?_
   simp at e1
  ·rw [eL (fun e=>hk e.symm)];exact fW (P:=P) (Q:=Q) .bare (hb.later h1) (fun e=>hk e.symm)
 | list g A c us ks hp hg hr hl hks ih=>
  intro Q v' b hb w1 h1
  by_cases hk:b.kindOf=5
  ·have a0:=hb
   obtain⟨ks',rfl⟩:∃ks',b = .mk 5 false es ⟨false,es,0⟩ [] ks':=by cases hb <;> first | exact⟨_,rfl⟩ | simp [JV.kindOf] at hk
   obtain⟨B,us',rfl,hL,hK⟩:=a0.asList;refine ug (P:=P) (.inr ⟨g,A,c,rfl,hg,hr,hl⟩) hL hT h1 (bV.trans (by simp)) fun i u u' k k' e1 e2 e3 e4 w2 h2=> ?_
   exact ih i u k e1 e2 (hK i u' k' e3 e4) w2 h2
  ·rw [eL (fun e=>hk e.symm)];exact fW (P:=P) (Q:=Q) ((VW.list g A c us ks hp hg hr hl hks).later h1) (hb.later h1) (fun e=>hk e.symm)
 | obj g A c us ns ks hp hg hr hl hn hks ih=>
  intro Q v' b hb w1 h1
  by_cases hk:b.kindOf=6
  ·have a0:=hb
   obtain⟨ns',ks',rfl⟩:∃ns' ks',b = .mk 6 false es ⟨false,es,0⟩ ns' ks':=by cases hb <;> first | exact⟨_,_,rfl⟩ | simp [JV.kindOf] at hk
   obtain⟨B,us',rfl,hL,hK⟩:=a0.asObj;refine Do (P:=P) ⟨g,A,c,rfl,hg,hr,hl,hn⟩ hL h1 (bV.trans (by simp)) fun i u u' k k' e1 e2 e3 e4 w2 h2=> ?_
   exact ih i u k e1 e2 (hK i u' k' e3 e4) w2 h2
  ·rw [eL (fun e=>hk e.symm)];exact fW (P:=P) (Q:=Q) ((VW.obj g A c us ns ks hp hg hr hl hn hks).later h1) (hb.later h1) (fun e=>hk e.symm)
theorem kS {a b:JV}(ha:VW P w v a)(hb:VW Q w v' b)(hT:dt w):Calls Tryz.prog 8 #[v,v'] w fun e w'=>e = .returned (.bool (oD a b))/\Below w.heap.size w w':=by
 have H:=Qa (yh ha hT hb w (Zd _ _));obtain⟨t1,x1,rfl⟩:=ha.iface;obtain⟨t2,x2,rfl⟩:=hb.iface;clear ha hb hT;generalize oD a b=c at *;go_enter Tryz.func8,Tryz.ntmps8;go_wp2_with fail;(with_reducible refine H.out.mono ?_);rintro e w2 ⟨rfl,a0⟩;go_wp2_with fail;go_ret;exact⟨rfl,a0⟩
theorem B6 (h:VW P w v j)(hT:dt w)(hG:cG w aU aE)(tx:Tx j)(sz:Sz j)(hl: (JV.txt j).length<=140737488355328):Calls Tryz.prog 13 #[v] w fun e w'=>e = .returned (.tuple #[.int .i64 (JV.txt j).length, .nilIface])/\Below w.heap.size w w':=by
 have H:=Qa (eo h hT hG tx sz hl);clear h hT hG tx sz hl;generalize JV.txt j=tl at *;go_enter Tryz.func13,Tryz.ntmps13;go_wp2_with fail;(with_reducible refine H.out.mono ?_);rintro e w1 ⟨u,rfl,ho,hb⟩;have Hb:=Qa hb;obtain⟨A,q,rfl, -⟩:=ag ho;clear ho hb;go_wp2_with fail;go_ret2;exact⟨rfl,Hb.out⟩
theorem mW (hE:pk w aU aE)(hM:jZ w)(hT:dt w)(hb:Bs w v xs)(h0:0<xs.length)(hl:xs.length<=1000000000)(hp:dF xs=some j)(tx:Tx j)(sz:Sz j)(hx: (JV.txt j).length<=140737488355328) :
  Calls Tryz.prog 12 #[v] w (Fu (JV.txt j) w):=by
 have H:=Qa (j8 hE hM hb h0 hl hp);have HB:=Qa (fun u w1 (hw:Below w.heap.size w w1) (hv:VW (w.heap.size<= ·) w1 u j)=>eo hv (hT.below hw) (hE.glob.below hw) tx sz hx);clear hE hM hT hb h0 hl hp tx sz hx;generalize JV.txt j=tl at *;go_enter Tryz.func12,Tryz.ntmps12;go_wp2_with fail;(with_reducible refine H.out.mono ?_);rintro e w1 ⟨u,rfl,a0,hv⟩;have a1:=Qa a0;have a4:=Qa (HB.out u w1 a0 hv);obtain⟨t1,x1,rfl⟩:=hv.iface;clear a0 hv HB;go_wp2_with fail;(with_reducible refine a4.out.mono ?_);rintro e w2 ⟨u2,rfl,ho,a2⟩;have a3:=Qa (a1.out.trans (a2.mono a1.out.size));have Ho:=Qa (cQ ho a1.out.size);obtain⟨A,q,rfl, -⟩:=ag ho;clear ho a2;go_wp2_with fail;go_ret2;exact⟨_,rfl,Ho.out,a3.out⟩
theorem zR {j':JV}(hE:pk w aU aE)(hM:jZ w)(hT:dt w)(hb:Bs w v xs)(h0:0<xs.length)(hl:xs.length<=1000000000)(hp:dF xs=some j)(b0:Bs w v' xs')(a5:0<xs'.length)(a6:xs'.length<=1000000000)(a4:dF xs'=some j') :
  Calls Tryz.prog 15 #[v,v'] w fun e w'=>e = .returned (.tuple #[.bool (oD j j'), .nilIface])/\Below w.heap.size w w':=by
 have H:=Qa (j8 hE hM hb h0 hl hp);have H2:=Qa (fun w1 (hw:Below w.heap.size w w1)=>j8 (hE.below hw) (hM.below hw) (b0.below hw) a5 a6 a4);have HT:=Qa hT;clear hE hM hT hb h0 hl hp b0 a5 a6 a4;go_enter Tryz.func15,Tryz.ntmps15;go_wp2_with fail;(with_reducible refine H.out.mono ?_);rintro e w1 ⟨u,rfl,a0,hv⟩;have a9:=Qa a0;have Hv:=Qa hv;have b2:=Qa (H2.out w1 a0);obtain⟨t1,x1,rfl⟩:=hv.iface;clear a0 hv;go_wp2_with fail;(with_reducible refine b2.out.mono ?_);rintro e w2 ⟨u2,rfl,a3,a2⟩;have a1:=Qa (a9.out.trans (a3.mono a9.out.size));have HQ:=Qa (kS (Hv.out.later a3) a2 (HT.out.below a1.out));obtain⟨t2,x2,rfl⟩:=a2.iface;clear a3 a2;go_wp2_with fail;(with_reducible refine HQ.out.mono ?_);rintro e w3 ⟨rfl,a7⟩;have b1:=Qa (a1.out.trans (a7.mono a1.out.size));clear a7;go_wp2_with fail;go_ret2;exact⟨rfl,b1.out⟩
theorem nx (h:Bs w v xs)(h':Bs w v' ys):Calls Tryz.prog 34 #[v,v'] w fun e w'=>e = .returned (.bool (decide (xs=ys)))/\w=w':=by
 have c1:=aF h;have c2:=aF h';have He:Hid (((⟨xs.toArray⟩:ByteArray).toList== (⟨ys.toArray⟩:ByteArray).toList)=decide (xs=ys)):=Qa (by
  rw [fg,fg,Bool.eq_iff_iff];simp)
 clear h h';generalize (⟨xs.toArray⟩:ByteArray)=a at *;generalize (⟨ys.toArray⟩:ByteArray)=b at *;go_enter Tryz.func34,Tryz.ntmps34;go_wp2_with fail;go_ret;rw [<- He.out];exact⟨rfl,rfl⟩
theorem vc (hE:pk w aU aE)(hM:jZ w)(hT:dt w)(hb:Bs w v xs)(h0:0<xs.length)(hl:xs.length<=1000000000)(hp:dF xs=some j)(tx:Tx j)(sz:Sz j)(hx: (JV.txt j).length<=140737488355328) :
  Calls Tryz.prog 14 #[v] w fun e w'=>e = .returned (.bool (decide (xs=JV.txt j)))/\Below w.heap.size w w':=by
 have H:=Qa (mW hE hM hT hb h0 hl hp tx sz hx);have HE:=Qa (fun w1 u (hw:Below w.heap.size w w1) (ho:au w1 w.heap.size u (JV.txt j))=>nx (hb.below hw) (au.bs ho));clear hE hM hT hb h0 hl hp tx sz hx;go_enter Tryz.func14,Tryz.ntmps14;go_wp2_with fail;(with_reducible refine H.out.mono ?_);rintro e w1 ⟨u,rfl,ho,a0⟩;have a1:=Qa a0;have HQ:=Qa (HE.out w1 u a0 ho);obtain⟨A,q,rfl, -⟩:=ag ho;clear ho a0;go_wp2_with fail;(with_reducible refine HQ.out.mono ?_);rintro e w2 ⟨rfl,rfl⟩;go_wp2_with fail;go_ret;exact⟨rfl,a1.out⟩
def Iy (x:Value)(w:World)(e:Ending)(w':World):Prop:=e = .returned (.tuple #[.slice none 0 0,x])/\Below w.heap.size w w'
theorem yS {a:Addr}(hN:w.cell? ⟨0,0,none⟩=some (bH a)):Calls Tryz.prog 7 #[.nilIface] w (Iy (bH a) w):=by
 have a1:Below w.heap.size w ((w.alloc (.cells #[.slice none 0 0] 22)).alloc (.cells #[.nilIface] 35)):=((Zd _ _).alloc (Za _) _).alloc (by simp) _;have h0: ((w.alloc (.cells #[.slice none 0 0] 22)).alloc (.cells #[.nilIface] 35)).heap[w.heap.size]?=some (.cells #[.slice none 0 0] 22 (0,0)):=(Below.heap_alloc _ _ _ (by simp)).trans (Ze w _);have h1: ((w.alloc (.cells #[.slice none 0 0] 22)).alloc (.cells #[.nilIface] 35)).heap[w.heap.size+1]?=some (.cells #[.nilIface] 35 (0,0)):=by
  have:=Ze (w.alloc (.cells #[.slice none 0 0] 22)) (.cells #[.nilIface] 35)
  rwa [World.size_alloc] at this
 have cN:=Zf a1 hN;have a5:0<w.heap.size:=World.block_lt_of_cell? w _ hN;have a4:=Qa a1;have H0:=Qa h0;have H1:=Qa h1;clear a1 h0 h1 hN;go_enter_defers Tryz.func7,Tryz.ntmps7;go_wp2_with fail;generalize (w.alloc (.cells #[.slice none 0 0] 22)).alloc (.cells #[.nilIface] 35)=w1 at *;have c0:=aa H0.out (j:=0) (u:= .slice none 0 0) rfl;have f0:=aj H0.out 0;have c1:=aa H1.out (j:=0) (u:= .nilIface) rfl;have f1:=aj H1.out 0;refine aW (fun w'=>w'.cell? ⟨0,0,none⟩=some (bH a)/\(w'.heap[w.heap.size]?=some (.cells #[.slice none 0 0] 22 (0,0)))/\(∃z,w'.heap[w.heap.size+1]?=some (.cells #[z] 35 (0,0)))) (⟨cN,H0.out,_,H1.out⟩) fun a0=> ?_
 refine tH 0 a0 ?_
 try simp only [Act.put,jP,jQ,jR]
 refine rH 1 fun K hK=> ?_
 go_simp;refine hK.out _ _ ((by obtain⟨q1,q2,z,q3⟩:=a0;exact⟨(World.cell?_of_block (Below.heap_setCell _ ⟨w.heap.size,0,none⟩ _ 0 (by show _≠w.heap.size;omega))).trans q1,ay q2 0 (.slice none 0 0),z,aw _ (w.heap.size+1) w.heap.size 0 (.slice none 0 0) _ _ (by omega) q3⟩)) (fun a0=> ?_);clear hK K
 try simp only [Act.put,jP,jQ,jR]
 refine rH 2 fun K hK=> ?_
 go_simp;refine hK.out _ _ ((by obtain⟨q1,q2,z,q3⟩:=a0;exact⟨(World.cell?_of_block (Below.heap_setCell _ ⟨w.heap.size+1,0,none⟩ _ 0 (by show _≠w.heap.size+1;omega))).trans q1,aw _ w.heap.size (w.heap.size+1) 0 (bH a) _ _ (by omega) q2,_,ay q3 0 (bH a)⟩)) (fun a0=> ?_);clear hK K
 try simp only [Act.put,jP,jQ,jR]
 refine wpAnyH_done (by kernel_rfl) (NoPanic.normal ?_) _;obtain⟨a2,d0,d1⟩:=qU H0.out H1.out a4.out (.slice none 0 0) (bH a);rw [show(Value.iface 406 (.pointer (some a)))=bH a from rfl];have a3:=a2.drew;have e0: ((w1.setCell ⟨w.heap.size,0,none⟩ (.slice none 0 0)).setCell ⟨w.heap.size+1,0,none⟩ (bH a)).drew.cell? ⟨w.heap.size,0,none⟩=some (.slice none 0 0):=d0;have e1: ((w1.setCell ⟨w.heap.size,0,none⟩ (.slice none 0 0)).setCell ⟨w.heap.size+1,0,none⟩ (bH a)).drew.cell? ⟨w.heap.size+1,0,none⟩=some (bH a):=d1;clear d0 d1 a2 c0 c1 f0 f1 a0;generalize ((w1.setCell ⟨w.heap.size,0,none⟩ (.slice none 0 0)).setCell ⟨w.heap.size+1,0,none⟩ (bH a)).drew=w4 at *;go_wp2_with fail;simp [bodyPostD,Leaves,settle,results,Tryz.results7,go_sem,e0,e1];exact⟨rfl,a3⟩
theorem vD:Calls Tryz.prog 26 #[.iface 54 (.agg #[])] w fun e w'=>e = .returned (.bool true)/\Below w.heap.size w w':=by
 have a2:=Qa (show Below w.heap.size w (w.alloc (.cells #[.bool false] 4)) from(Zd _ _).alloc (Za _) _);have Hk:=Qa (Bx.new w 4 (.bool false));go_enter Tryz.func26,Tryz.ntmps26;go_wp2_with fail;(with_reducible refine gH.mono ?_);rintro e w1 ⟨rfl,a1⟩;have a5:=Qa (a2.out.trans (a1.mono a2.out.size));have a0:=Hk.out.later a1;have a7:=a0.cell;have a6:=a0.frozen;have a3:=Qa (a0.set (.bool true)).cell;clear a1 a0;go_wp2_with fail;refine Zg (v:= .bool true) ?_ rfl ⟨rfl,a5.out.setCell (p:=⟨w.heap.size,0,none⟩) (Za _) _⟩;have a4:=a3.out;simp [results,Tryz.results26,go_sem,a4]
theorem vW {a:Addr}(hN:w.cell? ⟨1,0,none⟩=some (bH a)):Calls Tryz.prog 7 #[.iface 54 (.agg #[])] w (Iy (bH a) w):=by
 have a3:Below w.heap.size w ((w.alloc (.cells #[.slice none 0 0] 22)).alloc (.cells #[.nilIface] 35)):=((Zd _ _).alloc (Za _) _).alloc (by simp) _;have h0: ((w.alloc (.cells #[.slice none 0 0] 22)).alloc (.cells #[.nilIface] 35)).heap[w.heap.size]?=some (.cells #[.slice none 0 0] 22 (0,0)):=(Below.heap_alloc _ _ _ (by simp)).trans (Ze w _);have h1: ((w.alloc (.cells #[.slice none 0 0] 22)).alloc (.cells #[.nilIface] 35)).heap[w.heap.size+1]?=some (.cells #[.nilIface] 35 (0,0)):=by
  have:=Ze (w.alloc (.cells #[.slice none 0 0] 22)) (.cells #[.nilIface] 35)
  rwa [World.size_alloc] at this
 have cN:=Zf a3 hN;have a6:1<w.heap.size:=World.block_lt_of_cell? w _ hN;have a2:=Qa a3;have H0:=Qa h0;have H1:=Qa h1;clear a3 h0 h1 hN;go_enter_defers Tryz.func7,Tryz.ntmps7;go_wp2_with fail;generalize (w.alloc (.cells #[.slice none 0 0] 22)).alloc (.cells #[.nilIface] 35)=w1 at *;(with_reducible refine vD.mono ?_);rintro e w2 ⟨rfl,a1⟩;replace cN:=Zf a1 cN;replace H0:=Qa (ai H0.out a1);replace H1:=Qa (ai H1.out a1);replace a2:=Qa (a2.out.trans (a1.mono a2.out.size));clear a1;go_wp2_with fail;have c0:=aa H0.out (j:=0) (u:= .slice none 0 0) rfl;have f0:=aj H0.out 0;have c1:=aa H1.out (j:=0) (u:= .nilIface) rfl;have f1:=aj H1.out 0;refine aW (fun w'=>w'.cell? ⟨1,0,none⟩=some (bH a)/\(w'.heap[w.heap.size]?=some (.cells #[.slice none 0 0] 22 (0,0)))/\(∃z,w'.heap[w.heap.size+1]?=some (.cells #[z] 35 (0,0)))) (⟨cN,H0.out,_,H1.out⟩) fun a0=> ?_
 refine tH 0 a0 ?_
 try simp only [Act.put,jP,jQ,jR]
 refine rH 1 fun K hK=> ?_
 go_simp;refine hK.out _ _ ((by obtain⟨q1,q2,z,q3⟩:=a0;exact⟨(World.cell?_of_block (Below.heap_setCell _ ⟨w.heap.size,0,none⟩ _ 1 (by show _≠w.heap.size;omega))).trans q1,ay q2 0 (.slice none 0 0),z,aw _ (w.heap.size+1) w.heap.size 0 (.slice none 0 0) _ _ (by omega) q3⟩)) (fun a0=> ?_);clear hK K
 try simp only [Act.put,jP,jQ,jR]
 refine rH 2 fun K hK=> ?_
 go_simp;refine hK.out _ _ ((by obtain⟨q1,q2,z,q3⟩:=a0;exact⟨(World.cell?_of_block (Below.heap_setCell _ ⟨w.heap.size+1,0,none⟩ _ 1 (by show _≠w.heap.size+1;omega))).trans q1,aw _ w.heap.size (w.heap.size+1) 0 (bH a) _ _ (by omega) q2,_,ay q3 0 (bH a)⟩)) (fun a0=> ?_);clear hK K
 try simp only [Act.put,jP,jQ,jR]
 refine wpAnyH_done (by kernel_rfl) (NoPanic.normal ?_) _;obtain⟨a4,d0,d1⟩:=qU H0.out H1.out a2.out (.slice none 0 0) (bH a);rw [show(Value.iface 406 (.pointer (some a)))=bH a from rfl];have a5:=a4.drew;have e0: ((w2.setCell ⟨w.heap.size,0,none⟩ (.slice none 0 0)).setCell ⟨w.heap.size+1,0,none⟩ (bH a)).drew.cell? ⟨w.heap.size,0,none⟩=some (.slice none 0 0):=d0;have e1: ((w2.setCell ⟨w.heap.size,0,none⟩ (.slice none 0 0)).setCell ⟨w.heap.size+1,0,none⟩ (bH a)).drew.cell? ⟨w.heap.size+1,0,none⟩=some (bH a):=d1;clear d0 d1 a4 c0 c1 f0 f1 a0;generalize ((w2.setCell ⟨w.heap.size,0,none⟩ (.slice none 0 0)).setCell ⟨w.heap.size+1,0,none⟩ (bH a)).drew=w4 at *;go_wp2_with fail;simp [bodyPostD,Leaves,settle,results,Tryz.results7,go_sem,e0,e1];exact⟨rfl,a5⟩
theorem oO:Calls Tryz.prog 16 #[] w fun e w'=>e = .returned (.pointer (some ⟨w.heap.size,0,none⟩))/\w'.heap[w.heap.size]?=some (.cells #[.slice none 0 0, .nilIface] 94 (0,0))/\Below w.heap.size w w':=by
 have h0:=Qa (Ze w (.cells #[.slice none 0 0, .nilIface] 94));have hb:=Qa (ac w (.cells #[.slice none 0 0, .nilIface] 94));go_enter Tryz.func16,Tryz.ntmps16;go_wp2_with fail;go_ret;exact⟨rfl,h0.out,hb.out⟩
theorem nj {d:Value}(h:w.heap[g]?=some (.cells #[.slice A 0 c,d] 94 (0,0))):Calls Tryz.prog 36 #[.pointer (some ⟨g,0,none⟩)] w fun e w'=>e = .returned .nilIface/\w=w':=by
 have c0:=aa h (j:=0) (u:= .slice A 0 c) rfl;clear h;go_enter Tryz.func36,Tryz.ntmps36;go_wp2_with fail;go_ret;exact⟨rfl,rfl⟩
theorem AV {d:Value}(h:w.heap[g]?=some (.cells #[.slice (some ⟨gr,0,none⟩) (n+1) c,d] 94 (0,0)))(hn:n<1000000000)(hu:w.cell? ⟨gr,n,none⟩=some u):Calls Tryz.prog 36 #[.pointer (some ⟨g,0,none⟩)] w fun e w'=>e = .returned u/\∃m,w'=w.drewN m:=by
 have c0:=aa h (j:=0) (u:= .slice (some ⟨gr,0,none⟩) (n+1) c) rfl;have s1:IntKind.i64.wrap (n:Int)= (n:Int):=IntWalk.i64_in _ (by omega);have s2: (n:Int)< (n:Int)+1:=by omega
 have s3: ((n:Int)+1==0)=false:=by simp only [beq_eq_false_iff_ne];omega
 clear h;go_enter Tryz.func36,Tryz.ntmps36;go_wp2_with fail;go_quiet (fail);go_wp2_with fail;go_ret;exact⟨rfl,_,rfl⟩
theorem qW:Calls Tryz.prog 295 #[x] w fun e w'=>e = .returned (.bool true)/\w=w':=by
 go_enter Tryz.func295,Tryz.ntmps295;go_wp2_with fail;go_ret;exact⟨rfl,rfl⟩
theorem nW {m:Value}{b:Bool}(h:w.heap[g]?=some (.cells #[m,nm, .bool b] 102 (0,0))):Calls Tryz.prog 298 #[.pointer (some ⟨g,0,none⟩)] w fun e w'=>e = .returned (.bool b)/\w=w':=by
 have c0:=aa h (j:=2) (u:= .bool b) rfl;clear h;go_enter Tryz.func298,Tryz.ntmps298;go_wp2_with fail;go_ret;exact⟨rfl,rfl⟩
theorem sN (h:w.heap[g]?=some (.cells #[.slice A 0 c, .nilIface] 94 (0,0))):Calls Tryz.prog 35 #[.pointer (some ⟨g,0,none⟩)] w fun e w'=>e = .returned (.bool true)/\Below w.heap.size w w':=by
 have c1:=aa h (j:=1) (u:= .nilIface) rfl;have H:=Qa (nj h);clear h;go_enter Tryz.func35,Tryz.ntmps35;go_wp2_with fail;(with_reducible refine H.out.mono ?_);rintro e w1 ⟨rfl,rfl⟩;go_wp2_with fail;go_ret;exact⟨rfl,Zd _ _⟩
theorem uG (h:w.heap[g]?=some (.cells #[.slice A 0 c, .iface t x] 94 (0,0))):Calls Tryz.prog 35 #[.pointer (some ⟨g,0,none⟩)] w fun e w'=>e = .returned (.bool false)/\Below w.heap.size w w':=by
 have c1:=aa h (j:=1) (u:= .iface t x) rfl;have H:=Qa (nj h);clear h;go_enter Tryz.func35,Tryz.ntmps35;go_wp2_with fail;(with_reducible refine H.out.mono ?_);rintro e w1 ⟨rfl,rfl⟩;go_wp2_with fail;go_ret;exact⟨rfl,Zd _ _⟩
theorem xj (H:Calls Tryz.prog 36 #[.pointer (some ⟨g,0,none⟩)] w fun e w'=>e = .returned (.iface 95 x)/\Below w.heap.size w w'):Calls Tryz.prog 35 #[.pointer (some ⟨g,0,none⟩)] w fun e w'=>e = .returned (.bool true)/\Below w.heap.size w w':=by
 go_enter Tryz.func35,Tryz.ntmps35;go_wp2_with fail;(with_reducible refine H.mono ?_);rintro e w1 ⟨rfl,hb⟩;go_wp2_with fail;(with_reducible refine qW.mono ?_);rintro e w2 ⟨rfl,rfl⟩;go_wp2_with fail;go_ret;exact⟨rfl,hb⟩
theorem pT {m:Value}{b:Bool}(h:w.heap[gt]?=some (.cells #[m,nm, .bool b] 102 (0,0)))(H:Calls Tryz.prog 36 #[.pointer (some ⟨g,0,none⟩)] w fun e w'=>e = .returned (.iface 99 (.pointer (some ⟨gt,0,none⟩)))/\Below w.heap.size w w'):Calls Tryz.prog 35 #[.pointer (some ⟨g,0,none⟩)] w fun e w'=>e = .returned (.bool b)/\Below w.heap.size w w':=by
 have HT:=Qa (fun w1 (hw:Below w.heap.size w w1)=>nW (ai h hw));clear h;go_enter Tryz.func35,Tryz.ntmps35;go_wp2_with fail;(with_reducible refine H.mono ?_);rintro e w1 ⟨rfl,hb⟩;have a0:=Qa (HT.out w1 hb);go_wp2_with fail;(with_reducible refine a0.out.mono ?_);rintro e w2 ⟨rfl,rfl⟩;go_wp2_with fail;go_ret;exact⟨rfl,hb⟩
theorem xh (h:w.heap[g]?=some (.cells #[.slice A us.length c] 98 (0,0)))(ho:w.ownsRow base 32 1 (.slice A us.length c) us.length us)(hb:base<=w.heap.size)(hl:us.length<=1000000000)(hn:∀b,(Value.slice A us.length c).ownBlock=some b->b≠g) :
  Calls Tryz.prog 293 #[.pointer (some ⟨g,0,none⟩), .iface t x] w fun e w'=>e = .returned (.tuple #[])/\∃A' q,w'.heap[g]?=some (.cells #[.slice A' (us.length+1) q] 98 (0,0))/\w'.ownsRow base 32 1 (.slice A' (us.length+1) q) (us.length+1) (us ++ [.iface t x])/\bl (fun k=>k=g\/(Value.slice A us.length c).ownBlock=some k) w w'/\((Value.slice A' (us.length+1) q).ownBlock= (Value.slice A us.length c).ownBlock\/∃b,(Value.slice A' (us.length+1) q).ownBlock=some b/\w.heap.size<=b):=by
 have c0:=aa h (j:=0) (u:= .slice A us.length c) rfl;have a0:=Qa (ac w (.cells #[.iface t x] 32));have a3:=Qa (av w [.iface t x] 32);have Ho:=Qa (ap ho a0.out (Za _));have H:=Qa (ai h a0.out);have a2:=Qa (show base<=(w.alloc (.cells #[.iface t x] 32)).heap.size from Zb hb a0.out.size);have Hn:=Qa hn;obtain⟨n,a1⟩:∃n,us.length=n:=⟨_,rfl⟩;have a4:=Qa a1;rw [a1] at Ho H Hn c0 hl ⊢;clear h ho hn a1;go_enter Tryz.func293,Tryz.ntmps293;go_wp2_with (at_builtin;refine ar xV rfl (.tmp 8) (.tmp 10) rfl base (.slice A n c) n w.heap.size 1 1 us [.iface t x] (by simp [Act.eval]) Ho.out (by simp [Act.eval]) rfl a3.out (by simp [Value.oneCell']) (by unfold maxLen;omega) (by omega) a2.out ?_;intro v' w5 p1 p2 p3;obtain⟨A5,q5,rfl, -, -, -⟩:=ag p1;have g5:=aJ H.out p2 (fun e=>Hn.out g e rfl);have f5:=aj g5 0;have c5:=aa g5 (j:=0) (u:= .slice A n c) rfl;have G5:=Qa g5;have HK:=Qa p1;have HG:=Qa p2;have HD:=Qa p3;clear p1 p2 p3 g5);go_end0;have hne:∀b,(Value.slice A5 (n+1) q5).ownBlock=some b->¬b=g:=fun b hb e=>by
  have hg:=ae H.out;rcases HD.out with h | h
  ·exact Hn.out b (h▸hb) e
  ·rw [h] at hb
   have:=Zh hb;omega
 refine⟨rfl,⟨A5,q5,ay G5.out 0 _,bC HK.out (fun b hb=> ?_), ?_, ?_⟩⟩
 ·exact(bl.set g 0 _).block b (by obtain⟨_,cur,hg⟩:=ak HK.out hb;exact ae hg) (hne b hb)
 ·exact((bl.of_below a0.out).trans (bl.grown HG.out) (fun i h=> .inl (.inr h))).trans (bl.set g 0 _) (fun i h=> .inl (.inl h))
 ·rcases HD.out with h | h
  ·exact .inl h
  ·exact .inr ⟨_,h,a0.out.size⟩
theorem qA {d:Value}(h:w.heap[g]?=some (.cells #[.slice A 0 c,d] 94 (0,0)))(hd:d.oneCell'=true):Calls Tryz.prog 38 #[.pointer (some ⟨g,0,none⟩), .iface t x] w fun e w'=>e = .returned (.tuple #[])/\w'.heap[g]?=some (.cells #[.slice A 0 c, .iface t x] 94 (0,0))/\bl (fun k=>k=g) w w':=by
 have c1:=aa h (j:=1) (u:=d) rfl;have f1:=aj h 1;have H:=Qa (nj h);have Hs:=Qa (ay h 1 (.iface t x));clear h;go_enter Tryz.func38,Tryz.ntmps38;go_wp2_with fail;(with_reducible refine H.out.mono ?_);rintro e w1 ⟨rfl,rfl⟩;go_wp2_with fail;go_end0;exact⟨rfl,Hs.out,bl.set g 1 _⟩
def BQ (w:World)(base gr:Nat)(A:Option Addr)(c:Nat)(us:List Value)(v:Value)(w':World):Prop:= ∃A' q,w'.heap[gr]?=some (.cells #[.slice A' (us.length+1) q] 98 (0,0))/\w'.ownsRow base 32 1 (.slice A' (us.length+1) q) (us.length+1) (us ++ [v])/\bl (fun k=>k=gr\/(Value.slice A us.length c).ownBlock=some k) w w'/\((Value.slice A' (us.length+1) q).ownBlock= (Value.slice A us.length c).ownBlock\/∃b,(Value.slice A' (us.length+1) q).ownBlock=some b/\w.heap.size<=b)
theorem rJ (HI:Calls Tryz.prog 36 #[.pointer (some ⟨g,0,none⟩)] w fun e w'=>e = .returned (.iface 95 (.pointer (some ⟨gr,0,none⟩)))/\∃m,w'=w.drewN m)
  (h:w.heap[gr]?=some (.cells #[.slice A us.length c] 98 (0,0))) (ho:w.ownsRow base 32 1 (.slice A us.length c) us.length us) (hb:base<=w.heap.size) (hl:us.length<=1000000000) (hn:∀b,(Value.slice A us.length c).ownBlock=some b->b≠gr) :
  Calls Tryz.prog 38 #[.pointer (some ⟨g,0,none⟩), .iface t x] w fun e w'=>e = .returned (.tuple #[])/\∃m,BQ (w.drewN m) base gr A c us (.iface t x) w':=by
 have HA:=Qa (fun m=>xh (w:=w.drewN m) (t:=t) (x:=x) h ho hb hl hn);clear h ho hb hl hn;go_enter Tryz.func38,Tryz.ntmps38;go_wp2_with fail;(with_reducible refine HI.mono ?_);rintro e w1 ⟨rfl,m,rfl⟩;have a0:=Qa (HA.out m);go_wp2_with fail;(with_reducible refine a0.out.mono ?_);rintro e w2 ⟨rfl,hr⟩;go_wp2_with fail;(try simp only [Exit.inBlock,Exit.then]);refine Zg (results_none rfl _ _ _) rfl ?_;exact⟨rfl,m,hr⟩
