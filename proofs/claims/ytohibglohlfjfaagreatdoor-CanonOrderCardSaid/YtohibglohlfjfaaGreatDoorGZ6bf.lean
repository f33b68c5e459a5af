import Derived.Test.YtohibglohlfjfaaGreatDoorGZ6be
set_option linter.unusedVariables false
set_option linter.unusedSimpArgs false
set_option maxHeartbeats 64000000
set_option maxRecDepth 100000
namespace Go.Proofs.YtohibglohlfjfaaGreatDoor
open Go.RowKit Go.Shelf
variable {aE aU:Addr}{d:Dc}{j:JV}{ns:List ByteArray}{ks ks':List JV}{xs ys zs:List UInt8}{us us':List Value}{c g1 g2 n:Nat}{P Q:Nat->Prop}{A:Option Addr}{u v:Value}{W w w' w1 w2:World}
def sg (a b:Int):Int:=if a<b then -1 else if b<a then 1 else 0
theorem el {a:Int}:Calls Tryz.prog 69 #[.int .i64 a] w fun e w'=>e =.returned (.bool false)/\w=w':=by
 go_enter Tryz.func69,Tryz.ntmps69;go_wp2_with fail;go_ret;simp
theorem a8 {a b:Int}:Calls Tryz.prog 44 #[.int .i64 a,.int .i64 b] w fun e w'=>e =.returned (.int .i64 (sg a b))/\w=w':=by
 unfold sg;rcases Int.lt_trichotomy a b with h|h|h
 ·rw[if_pos h];go_enter Tryz.func44,Tryz.ntmps44;go_wp2_with fail;refine el.mono ?_;rintro e w' ⟨rfl,rfl⟩;go_wp2_with fail;refine el.mono ?_;rintro e w' ⟨rfl,rfl⟩;go_wp2_with fail;go_ret;exact⟨rfl,rfl⟩
 ·subst h;rw[if_neg (Int.lt_irrefl _),if_neg (Int.lt_irrefl _)];go_enter Tryz.func44,Tryz.ntmps44;go_wp2_with fail;refine el.mono ?_;rintro e w' ⟨rfl,rfl⟩;go_wp2_with fail;refine el.mono ?_;rintro e w' ⟨rfl,rfl⟩;go_wp2_with fail;go_ret;exact⟨rfl,rfl⟩
 ·have h':¬a<b:=by omega
  rw[if_neg h',if_pos h];go_enter Tryz.func44,Tryz.ntmps44;go_wp2_with fail;refine el.mono ?_;rintro e w' ⟨rfl,rfl⟩;go_wp2_with fail;refine el.mono ?_;rintro e w' ⟨rfl,rfl⟩;go_wp2_with fail;go_ret;exact⟨rfl,rfl⟩
theorem qD (x:List UInt8):(⟨x.toArray⟩:ByteArray).toList=x:=by rw[ByteArray.toList_eq]
theorem Gd (a:ByteArray)(x:List UInt8):(a.toList==x)=decide (a= ⟨x.toArray⟩):=by
 rw[Bool.eq_iff_iff];simp only[beq_iff_eq,decide_eq_true_eq]
 constructor
 ·intro h;subst h;rw[ByteArray.toList_eq]
 ·intro h;subst h;exact qD x
theorem mc:Calls Tryz.prog 132 #[.agg #[.bool d.neg,.string d.digits,.int .i64 d.exp]] w fun e w'=>e =.returned (.bool (decide (d.digits= ⟨#[48]⟩)))/\Below w.heap.size w w':=by
 go_enter Tryz.func132,Tryz.ntmps132;go_wp2_with fail;go_ret;refine⟨?_,ac w _⟩
 show Ending.returned (.bool (d.digits.toList == [48]))=_
 rw[Gd]
theorem l9:Calls Tryz.prog 93 #[.agg #[.bool d.neg,.string d.digits,.int .i64 d.exp]] w fun e w'=>e =.returned (.int .i64 (kl d))/\Below w.heap.size w w':=by
 have a1:=Qa (ac w (.cells #[.bool d.neg,.string d.digits,.int .i64 d.exp] 110));have h0:=Zf w (.cells #[.bool d.neg,.string d.digits,.int .i64 d.exp] 110)
 by_cases hz:d.digits= ⟨#[48]⟩
 ·have hs:=Qa (show kl d=0 by unfold kl;rw[if_pos hz]);have hd:decide (d.digits= ⟨#[48]⟩)=true:=by simpa using hz
  have Hz:=Qa hd;clear hz hd;go_enter Tryz.func93,Tryz.ntmps93;go_wp2_with fail;refine mc.mono ?_;rintro e w1 ⟨rfl,a0⟩;rw[Hz.out];have B1:=Qa (a1.out.trans (a0.mono a1.out.size));go_wp2_with fail;go_ret;rw[hs.out];exact⟨rfl,B1.out⟩
 ·have hd:decide (d.digits= ⟨#[48]⟩)=false:=by simpa using hz
  have Hz:=Qa hd;have hs:=Qa (show kl d=if d.neg then -1 else 1 by unfold kl;rw[if_neg hz]);clear hz hd;go_enter Tryz.func93,Tryz.ntmps93;go_wp2_with fail;refine mc.mono ?_;rintro e w1 ⟨rfl,a0⟩;rw[Hz.out];have B1:=Qa (a1.out.trans (a0.mono a1.out.size));have c0:w1.cell? ⟨w.heap.size,0,none⟩=some (.bool d.neg):=aa ((a0.block _ (ae h0)).trans h0) (j:=0) rfl;rcases hn:d.neg with _|_
  all_goals
   rw[hn] at c0;have Hn:=Qa hn;clear hn;go_wp2_with fail;go_ret;rw[hs.out,Hn.out];exact⟨rfl,B1.out⟩
theorem ou {a:ByteArray}:Calls Tryz.prog 169 #[.string a] w fun e w'=>e =.returned (.bool false)/\w=w':=by
 go_enter Tryz.func169,Tryz.ntmps169;go_wp2_with fail;go_ret;exact⟨rfl,rfl⟩
def sR (x y:List UInt8):Int:=if Op.bytesLess x y then -1 else if x=y then 0 else 1
theorem rc {s:Int}(hs:s=1\/s = -1):∀ (x y:List UInt8),aw (kA s x) (kA s y)=s*sR x y
 | [], []=>by
  have:sR [] []=0:=rfl;rw[this,Int.mul_zero];exact ei _
 | [],b::y=>by
  have e:sR [] (b::y) = -1:=by simp[sR,Op.bytesLess]
  rw[e];unfold kA;rw[bh];rcases hs with rfl|rfl
  ·rw[if_pos (by omega)];rfl
  ·rw[if_neg (by omega),if_pos (by omega)];rfl
 |a::x, []=>by
  have e:sR (a::x) []=1:=by simp[sR,Op.bytesLess]
  rw[e];unfold kA;rw[bh];rcases hs with rfl|rfl
  ·rw[if_neg (by omega),if_pos (by omega)];rfl
  ·rw[if_pos (by omega)];rfl
 |a::x,b::y=>by
  have ih:=rc hs x y;unfold kA;rw[bh];rcases Nat.lt_trichotomy a.toNat b.toNat with h|h|h
  ·have e:sR (a::x) (b::y) = -1:=by unfold sR;rw[if_pos (pP h).1]
   rw[e];rcases hs with rfl|rfl
   ·rw[if_pos (by omega)];rfl
   ·rw[if_neg (by omega),if_pos (by omega)];rfl
  ·obtain rfl:=UInt8.toNat_inj.1 h;rw[if_neg (by omega),if_neg (by omega),ih]
   congr 1
   simp[sR,Op.bytesLess]
  ·have e:sR (a::x) (b::y)=1:=by
    unfold sR;rw[if_neg (by simp[(pP h).2]),if_neg (by intro e;injection e with e _;subst e;omega)]
   rw[e];rcases hs with rfl|rfl
   ·rw[if_neg (by omega),if_pos (by omega)];rfl
   ·rw[if_pos (by omega)];rfl
theorem wO {a b:ByteArray}:Calls Tryz.prog 133 #[.string a,.string b] w fun e w'=>e =.returned (.int .i64 (sR a.toList b.toList))/\w=w':=by
 have Hs:=Qa (show sR a.toList b.toList=if Op.bytesLess a.toList b.toList then -1 else if a.toList=b.toList then 0 else 1 from rfl);go_enter Tryz.func133,Tryz.ntmps133;go_wp2_with fail;refine ou.mono ?_;rintro e w' ⟨rfl,rfl⟩;go_wp2_with fail;refine ou.mono ?_;rintro e w' ⟨rfl,rfl⟩;go_wp2_with fail
 ·rename_i h1
  go_ret;refine⟨?_,rfl⟩;rw[Hs.out,if_pos h1];rfl
 ·rename_i h1 _ _ h2
  go_ret;refine⟨?_,rfl⟩;rw[Hs.out,if_neg (by simp[h1]),if_neg (by simpa using h2)];rfl
 ·rename_i h1 h2
  go_ret;refine⟨?_,rfl⟩;rw[Hs.out,if_neg (by simp[h1]),if_pos (by simpa using h2)];rfl
def CR (d:Dc):Prop:=d.digits.size<=1000000000000/\ -1000000000000<=d.exp/\d.exp<=1000000000000
theorem Ed {a b s:Int}(hs:s=1\/s = -1)(x y:List Int):aw (s*a::x) (s*b::y)=if sg a b=0 then aw x y else s*sg a b:=by
 rw[bh];unfold sg;rcases hs with rfl|rfl <;> (repeat' split) <;> first|rfl|omega
def mA (a b:Dc):Int:=if sg (a.digits.size+a.exp) (b.digits.size+b.exp)=0 then sR a.digits.toList b.digits.toList else sg (a.digits.size+a.exp) (b.digits.size+b.exp)
theorem B4 (a b:Dc):aw (fH a) (fH b)=if kl a=kl b/\kl a≠0 then kl a*mA a b else sg (kl a) (kl b):=by
 unfold fH;rcases jq a with h|h|h <;> rcases jq b with k|k|k <;> simp only[h,k,if_true] <;> try (simp[bh,aw,sg];done)
 ·rw[if_neg (by decide),if_neg (by decide),if_pos (by decide),bh,if_neg (by omega),if_neg (by omega),Ed (.inr rfl),rc (.inr rfl),<-ByteArray.toList_eq,<-ByteArray.toList_eq];unfold mA;split <;> simp[*]
 ·rw[if_neg (by decide),if_neg (by decide),if_pos (by decide),bh,if_neg (by omega),if_neg (by omega),Ed (.inl rfl),rc (.inl rfl),<-ByteArray.toList_eq,<-ByteArray.toList_eq];unfold mA;split <;> simp[*]
theorem yL {x:Int}(h:n<=1000000000000)(h1: -1000000000000<=x)(h2:x<=1000000000000):IntKind.i64.wrap ((n:Int)+x)= (n:Int)+x:=by
 rw[IntKind.wrap_i64];omega
theorem xF {a b:Dc}(ha:CR a)(hb:CR b):Calls Tryz.prog 94 #[.agg #[.bool a.neg,.string a.digits,.int .i64 a.exp],.agg #[.bool b.neg,.string b.digits,.int .i64 b.exp]] w fun e w'=>e =.returned (.int .i64 (mA a b))/\Below w.heap.size w w':=by
 obtain⟨a1,a2,a3⟩:=ha;obtain⟨b1,b2,b3⟩:=hb;have w1:=yL a1 a2 a3;have w2:=yL b1 b2 b3;obtain⟨v,hv⟩:∃v,sg (a.digits.size+a.exp) (b.digits.size+b.exp)=v:=⟨_,rfl⟩;have Ha:=Qa (show mA a b=if v=0 then sR a.digits.toList b.digits.toList else v by rw[<-hv];rfl);have Hv:=Qa hv;have Hw:=Qa (show Below w.heap.size w ((w.alloc (.cells #[.bool a.neg,.string a.digits,.int .i64 a.exp] 110)).alloc (.cells #[.bool b.neg,.string b.digits,.int .i64 b.exp] 110)) from((Ze _ _).alloc (Zb _) _).alloc (by simp) _);clear hv a1 a2 a3 b1 b2 b3
 by_cases h0:v=0
 ·subst h0;have a0:=Qa (show mA a b=sR a.digits.toList b.digits.toList from Ha.out);clear Ha;go_enter Tryz.func94,Tryz.ntmps94;go_wp2_with fail;refine a8.mono ?_;rintro e w' ⟨rfl,rfl⟩;rw[Hv.out];go_wp2_with fail;refine wO.mono ?_;rintro e w' ⟨rfl,rfl⟩;go_wp2_with fail;go_ret;rw[a0.out];exact⟨rfl,Hw.out⟩
 ·have a0:=Qa (show mA a b=v from Ha.out.trans (if_neg h0));clear Ha;go_enter Tryz.func94,Tryz.ntmps94;go_wp2_with fail;refine a8.mono ?_;rintro e w' ⟨rfl,rfl⟩;rw[Hv.out];go_wp2_with fail;go_ret;rw[a0.out];exact⟨rfl,Hw.out⟩
abbrev J9 (d:Dc):Obj:=.cells #[.bool d.neg,.string d.digits,.int .i64 d.exp] 110 (0,0)
def tg (w:World)(g1 g2:Nat)(a b:Dc)(w':World):Prop:=w'.heap[g1]?=some (J9 a)/\w'.heap[g2]?=some (J9 b)/\Below w.heap.size w w'
theorem tg.below {a b:Dc}(h:tg w g1 g2 a b w1)(hb:Below w1.heap.size w1 w2):tg w g1 g2 a b w2:=⟨ai h.1 hb,ai h.2.1 hb,h.2.2.trans (hb.mono h.2.2.size)⟩
theorem tg.c1 {a b:Dc}(h:tg w g1 g2 a b w'):w'.cell? ⟨g1,0,none⟩=some (.bool a.neg)/\w'.cell? ⟨g1,1,none⟩=some (.string a.digits)/\w'.cell? ⟨g1,2,none⟩=some (.int .i64 a.exp):=⟨aa h.1 (j:=0) rfl,aa h.1 (j:=1) rfl,aa h.1 (j:=2) rfl⟩
theorem tg.c2 {a b:Dc}(h:tg w g1 g2 a b w'):w'.cell? ⟨g2,0,none⟩=some (.bool b.neg)/\w'.cell? ⟨g2,1,none⟩=some (.string b.digits)/\w'.cell? ⟨g2,2,none⟩=some (.int .i64 b.exp):=⟨aa h.2.1 (j:=0) rfl,aa h.2.1 (j:=1) rfl,aa h.2.1 (j:=2) rfl⟩
theorem wY (w:World)(a b:Dc):tg w w.heap.size (w.heap.size+1) a b ((w.alloc (.cells #[.bool a.neg,.string a.digits,.int .i64 a.exp] 110)).alloc (.cells #[.bool b.neg,.string b.digits,.int .i64 b.exp] 110)):=by
 refine⟨ai (Zf w _) (ac _ _),?_,((Ze _ _).alloc (Zb _) _).alloc (by simp) _⟩;have:=Zf (w.alloc (.cells #[.bool a.neg,.string a.digits,.int .i64 a.exp] 110)) (.cells #[.bool b.neg,.string b.digits,.int .i64 b.exp] 110);have e:(w.alloc (.cells #[.bool a.neg,.string a.digits,.int .i64 a.exp] 110)).heap.size=w.heap.size+1:=by show(w.heap.push _).size=_;rw[Array.size_push]
 rwa[e] at this
theorem wF {a b:Dc}(ha:CR a)(hb:CR b):Calls Tryz.prog 70 #[.agg #[.bool a.neg,.string a.digits,.int .i64 a.exp],.agg #[.bool b.neg,.string b.digits,.int .i64 b.exp]] w fun e w'=>e =.returned (.int .i64 (aw (fH a) (fH b)))/\Below w.heap.size w w':=by
 have Hc:=Qa (B4 a b);have Ha:=Qa ha;have Hb:=Qa hb;have HT:=Qa (wY w a b);clear ha hb;go_enter Tryz.func70,Tryz.ntmps70;go_wp2_with fail;obtain⟨w0,a7⟩:∃w0:World,w0= ((w.alloc (.cells #[.bool a.neg,.string a.digits,.int .i64 a.exp] 110)).alloc (.cells #[.bool b.neg,.string b.digits,.int .i64 b.exp] 110)):=⟨_,rfl⟩;rw[<-a7] at HT ⊢;clear a7;have hs:=HT.out.c1;have ht:=HT.out.c2;have b0:=HT.out.2.2;clear HT;generalize w.heap.size+1=g2 at *;obtain⟨g1,a6⟩:∃g1,g1=w.heap.size:=⟨_,rfl⟩;rw[<-a6] at hs ⊢;have a5:=Qa b0;have b2:=Qa a6;clear b0 a6;refine aA (fun w'=>(w'.cell? ⟨g1,0,none⟩=some (.bool a.neg)/\w'.cell? ⟨g1,1,none⟩=some (.string a.digits)/\w'.cell? ⟨g1,2,none⟩=some (.int .i64 a.exp))/\(w'.cell? ⟨g2,0,none⟩=some (.bool b.neg)/\w'.cell? ⟨g2,1,none⟩=some (.string b.digits)/\w'.cell? ⟨g2,2,none⟩=some (.int .i64 b.exp))) (⟨hs,ht⟩) fun a0=>?_
 refine tH 0 a0 ?_;refine tH 2 a0 ?_
 try simp only[Act.put,jP,jQ,jR]
 refine rH 1 fun K hK=>?_
 go_simp;refine l9.mono ?_;rintro e w1 ⟨rfl,a2⟩;refine hK.out _ _ (⟨⟨Zg a2 a0.1.1,Zg a2 a0.1.2.1,Zg a2 a0.1.2.2⟩,⟨Zg a2 a0.2.1,Zg a2 a0.2.2.1,Zg a2 a0.2.2.2⟩⟩) (fun a0=>?_);clear hK K
 try simp only[Act.put,jP,jQ,jR]
 refine rH 3 fun K hK=>?_
 go_simp;refine l9.mono ?_;rintro e w2 ⟨rfl,a1⟩;refine hK.out _ _ (⟨⟨Zg a1 a0.1.1,Zg a1 a0.1.2.1,Zg a1 a0.1.2.2⟩,⟨Zg a1 a0.2.1,Zg a1 a0.2.2.1,Zg a1 a0.2.2.2⟩⟩) (fun a0=>?_);clear hK K
 try simp only[Act.put,jP,jQ,jR]
 refine tH 4 a0 ?_;refine tH 5 a0 ?_
 try simp only[Act.put,jP,jQ,jR]
 refine wpAnyH_done (by kernel_rfl) (NoPanic.normal ?_) _;obtain⟨⟨s0,s1,s2⟩,t0,t1,t2⟩:=a0;have a9:Below w.heap.size w w2:=by
  have h1:Below w.heap.size w w1:=a5.out.drew.trans (a2.mono (show w.heap.size<=w0.drew.heap.size from a5.out.size));exact h1.trans (a1.mono h1.size)
 clear hs ht a2 a1 a5 b2;have Hw:=Qa a9;have a3:=jq a;have a4:=jq b;have b1:=Qa (xF (w:=w2) Ha.out Hb.out);have Hd:Hid (mA a b=0\/mA a b=1\/mA a b = -1):=Qa (by unfold mA sg sR;(repeat' split) <;> simp);generalize hz:mA a b=z at *;generalize hsa:kl a=sa at *;generalize hsb:kl b=sb at *;clear hz hsa hsb a9 Ha Hb
 by_cases hq:sa=sb/\sa≠0
 ·obtain⟨rfl,h0⟩:=hq;have Hv:=Qa (show aw (fH a) (fH b)=sa*z from Hc.out.trans (if_pos ⟨rfl,h0⟩));have hin: -1<=sa*z/\sa*z<=1:=by
   rcases a3 with h|h|h <;> rcases Hd.out with k|k|k <;> rw[h,k] <;> omega
  have hw:IntKind.i64.wrap (sa*z)=sa*z:=IntWalk.i64_in _ (by omega);have b5:=Qa hin;clear hin Hc Hd a3 a4;have b6:(sa==0)=false:=by simpa using h0
  clear h0;go_wp2_with fail;refine Za b1 ?_;rintro e w3 ⟨rfl,b3⟩;have b4:=Qa (Hw.out.trans (b3.mono Hw.out.size));go_wp2_with fail;go_ret;rw[Hv.out];exact⟨rfl,b4.out⟩
 ·have Hv:=Qa (show aw (fH a) (fH b)=sg sa sb from Hc.out.trans (if_neg hq));clear Hc Hd b1
  by_cases he:sa=sb
  ·subst he;obtain rfl:sa=0:=by
    rcases a3 with h|h|h
    ·exact h
    all_goals exact absurd ⟨rfl,by rw[h];decide⟩ hq
   clear hq a3 a4;go_wp2_with fail;refine a8.mono ?_;rintro e w3 ⟨rfl,rfl⟩;go_wp2_with fail;go_ret;rw[Hv.out];exact⟨rfl,Hw.out⟩
  ·have b7:(sa==sb)=false:=by simpa using he
   clear hq a3 a4 he;go_wp2_with fail;refine a8.mono ?_;rintro e w3 ⟨rfl,rfl⟩;go_wp2_with fail;go_ret;rw[Hv.out];exact⟨rfl,Hw.out⟩
theorem ud {a b:Dc}(ha:CR a)(hb:CR b):Calls Tryz.prog 46 #[.agg #[.bool a.neg,.string a.digits,.int .i64 a.exp],.agg #[.bool b.neg,.string b.digits,.int .i64 b.exp]] w fun e w'=>e =.returned (.int .i64 (aw (fH a) (fH b)))/\Below w.heap.size w w':=by
 have Hw:=Qa (show Below w.heap.size w ((w.alloc (.cells #[.bool a.neg,.string a.digits,.int .i64 a.exp] 113)).alloc (.cells #[.bool b.neg,.string b.digits,.int .i64 b.exp] 113)) from((Ze _ _).alloc (Zb _) _).alloc (by simp) _);go_enter Tryz.func46,Tryz.ntmps46;go_wp2_with fail;refine(wF ha hb).mono ?_;rintro e w' ⟨rfl,a1⟩;have a0:=Qa (Hw.out.trans (a1.mono Hw.out.size));go_wp2_with fail;go_ret;exact⟨rfl,a0.out⟩
def xQ (xs:List UInt8):Int:=if(bD xs).2.2=0 then((bD xs).1:Int) else fL (xs.headD 0)
def o4 (xs:List UInt8):Nat:=if(bD xs).2.2=0 then(bD xs).2.1 else 1
theorem jh (h:xs≠ []):bO fL xs=xQ xs::bO fL (xs.drop (o4 xs)):=by
 unfold xQ o4
 by_cases h0:(bD xs).2.2=0
 ·rw[if_pos h0,if_pos h0,fF h h0]
 ·rw[if_neg h0,if_neg h0]
  cases xs with
  |nil=>exact absurd rfl h
  |cons x t=>rw[jo h0];rfl
theorem IJ (h:(bD xs).2.2=0):(bD xs).1<2097152:=by
 have:=(ju h).2;unfold dF at this;simp at this;omega
theorem yM (h:xs≠ []):1<=o4 xs/\o4 xs<=xs.length:=by
 unfold o4
 by_cases h0:(bD xs).2.2=0
 ·rw[if_pos h0];exact⟨eB h0,ob xs⟩
 ·rw[if_neg h0]
  cases xs with
  |nil=>exact absurd rfl h
  |cons x t=>simp
theorem jG (hb:Bs w v xs)(h0:xs≠ [])(hG:ce w aU aE):Calls Tryz.prog 71 #[v] w fun e w'=>e =.returned (.tuple #[.int .i64 (xQ xs),.int .i64 (o4 xs)])/\Below w.heap.size w w':=by
 obtain⟨x,t,rfl⟩:∃x t,xs=x::t:=by cases xs with|nil=>exact absurd rfl h0|cons x t=>exact⟨x,t,rfl⟩
 obtain⟨hm,A,c,rfl,hc,a0⟩:=id hb;obtain⟨b,o,rfl,a2⟩:=a0 (by simp);have c0:=a2 0 (by simp);rw[show am (x::t) 0=x.toNat from rfl,Nat.add_zero] at c0;have Hd:=Qa (iq hb hG);have a5:=(nD (x::t)).2;have hC:=Qa (show xQ (x::t)=if(bD (x::t)).2.2=0 then((bD (x::t)).1:Int) else fL x from rfl);have hN:=Qa (show o4 (x::t)=if(bD (x::t)).2.2=0 then(bD (x::t)).2.1 else 1 from rfl);have hx:=x.toNat_lt;have a6:=(nD (x::t)).1;have hn:(x::t).length= (x::t).length:=rfl;generalize hr:bD (x::t)=r at *;obtain⟨r1,r2,r3⟩:=r
 dsimp only at *
 generalize xQ (x::t)=lc at *;generalize o4 (x::t)=ln at *;have a1:=Qa hr;clear hr hb hG a0 a2 h0 hm;generalize hl:(x::t).length=n at *;have a4:0<n:=by rw[<-hl];simp
 have Hl:=Qa hl;clear hl hn;have w1:IntKind.i64.wrap (1114112+ (x.toNat:Int))=1114112+ (x.toNat:Int):=IntWalk.i64_in _ (by omega);rcases(by omega:r3=0\/r3=1\/r3=2) with rfl|rfl|rfl
 ·have hD:=Qa (show ri (cv aU) (cv aE) (r1,r2,0) =.tuple #[.int .i32 r1,.int .i64 r2,.nilIface] from rfl);have HC:=Qa (show lc= (r1:Int) from hC.out);have HN:=Qa (show ln=r2 from hN.out);have a3:wrap64 (r1:Int)= (r1:Int):=by
   have h:=IJ (xs:=x::t) (by rw[a1.out]);rw[a1.out] at h
   dsimp only at h
   exact IntWalk.wrap64_in _ ⟨by omega,by omega⟩
  clear hC hN;go_enter Tryz.func71,Tryz.ntmps71;go_wp2_with fail;refine Za Hd ?_;rintro e w' ⟨rfl,m,rfl⟩;rw[hD.out];go_wp2_with fail;go_ret2;rw[HC.out,HN.out];refine⟨?_,av (Ze _ _) m⟩
  show Ending.returned (.tuple #[.int .i64 (wrap64 (r1:Int)),.int .i64 r2])=_
  rw[a3]
 ·have hD:=Qa (show ri (cv aU) (cv aE) (r1,r2,1) =.tuple #[.int .i32 r1,.int .i64 r2,cv aE] from rfl);have HC:=Qa (show lc=fL x from hC.out);have HN:=Qa (show ln=1 from hN.out);clear hC hN;go_enter Tryz.func71,Tryz.ntmps71;go_wp2_with fail;refine Za Hd ?_;rintro e w' ⟨rfl,m,rfl⟩;rw[hD.out];go_wp2_with fail;go_ret2;rw[HC.out,HN.out];exact⟨rfl,av (Ze _ _) m⟩
 ·have hD:=Qa (show ri (cv aU) (cv aE) (r1,r2,2) =.tuple #[.int .i32 r1,.int .i64 r2,cv aU] from rfl);have HC:=Qa (show lc=fL x from hC.out);have HN:=Qa (show ln=1 from hN.out);clear hC hN;go_enter Tryz.func71,Tryz.ntmps71;go_wp2_with fail;refine Za Hd ?_;rintro e w' ⟨rfl,m,rfl⟩;rw[hD.out];go_wp2_with fail;go_ret2;rw[HC.out,HN.out];exact⟨rfl,av (Ze _ _) m⟩
theorem zc {k:Nat}(h:Bs W (.slice A n c) xs)(hk:k<=xs.length)(e:c=k):Bs W (.slice A (xs.length - k) 0) (xs.drop k):=by
 obtain⟨hm,A',c',e',hc,-⟩:=h;injection e' with e1 e2 e3
 subst e1 e3;have h0:(xs.drop k).length=0:=by rw[List.length_drop];omega
 exact⟨by omega,A,0,by rw[List.length_drop],by omega,fun h=>by omega⟩
def Gk (W:World)(k:Int)(s5 s6:Value)(wr:World):Prop:= ∃ (ys zs:List UInt8) (A B:Option Addr) (c d:Nat),s5 =.slice A ys.length c/\s6 =.slice B zs.length d/\Bs W (.slice A ys.length c) ys/\Bs W (.slice B zs.length d) zs/\k=aw (bO fL ys) (bO fL zs)/\Below W.heap.size W wr
theorem xW (h:ys = []\/zs = []):aw (bO fL ys) (bO fL zs)=sg ys.length zs.length:=by
 cases ys with
 |nil=>
  cases zs with
  |nil=>rfl
  |cons z t=>rw[jh (xs:=z::t) (by simp),lu];simp[aw,sg]
 |cons y s=>
  obtain rfl:zs = []:=by simpa using h
  rw[jh (xs:=y::s) (by simp),lu];simp only[aw,sg,List.length_cons,List.length_nil];rw[if_neg (by omega),if_pos (by omega)]
theorem iZ {a b:ByteArray}(ha:a.size<=9223372036854775807)(hb:b.size<=9223372036854775807)(hG:ce w aU aE):Calls Tryz.prog 47 #[.string a,.string b] w fun e w'=>e =.returned (.int .i64 (aw (nm a) (nm b)))/\Below w.heap.size w w':=by
 obtain⟨W1,cap1,a5,b4,a3⟩:=ij w a ha;obtain⟨W2,cap2,a4,b3,a1⟩:=ij W1 b hb;have c2:a.data.toList.length=a.size:=by simp
 have c0:b.data.toList.length=b.size:=by simp
 rw[<-c2] at a5 a3;rw[<-c0] at a4 a1;unfold nm;generalize a.data.toList=xs at *;generalize b.data.toList=ys at *;have b5:=Qa (b4.trans (b3.mono b4.size));have c1:=Qa ((hG.below b4).below b3);have Hbs1:=Qa (a3.below b3);have Hbs2:=Qa a1;clear b4 b3 hG a3 a1 ha hb c2 c0;go_enter Tryz.func47,Tryz.ntmps47;go_wp2_with fail
 go_loopw [5,6,7,8,9,10,23,28] (fun s5 s6 _ _ _ _ _ _ wr=>Gk W2 (aw (bO fL xs) (bO fL ys)) s5 s6 wr) (fun v _ _ _ _ _ _ _ _=>match v with | .slice _ n _=>n|_=>0)
 case atStart=>exact⟨xs,ys,_,_,_,_,rfl,rfl,Hbs1.out,Hbs2.out,rfl,Ze _ _⟩
 case round=>
  obtain⟨ps,qs,A,B,c,d,rfl,rfl,hp,hq,he,a9⟩:=hrel;have Hp:=Qa hp;have Hq:=Qa hq;have He:=Qa he;have a0:=Qa a9;obtain⟨-,_,_,e1,hc,b8⟩:=id hp;injection e1 with e1 e2 e3
  subst e1 e3;obtain⟨-,_,_,e1,hd,b9⟩:=id hq;injection e1 with e1 e2 e3
  subst e1 e3;clear hp hq he a9 e2
  by_cases h0:ps = []\/qs = []
  ·have Hz:=Qa (show aw (bO fL xs) (bO fL ys)=sg ps.length qs.length from He.out.trans (xW h0));have Hw:=Qa (b5.out.trans (a0.out.mono b5.out.size));clear He b8 b9
   by_cases h1:ps = []
   ·subst h1;clear h0;go_wp2_with fail;refine a8.mono ?_;rintro e w3 ⟨rfl,rfl⟩;go_wp2_with fail;go_ret;rw[Hz.out];exact⟨rfl,Hw.out⟩
   ·obtain rfl:qs = []:=h0.resolve_left h1;have c9:(0:Int)<ps.length:=by cases ps with|nil=>exact absurd rfl h1|cons _ _=>simp
    clear h0 h1;go_wp2_with fail;refine a8.mono ?_;rintro e w3 ⟨rfl,rfl⟩;go_wp2_with fail;go_ret;rw[Hz.out];exact⟨rfl,Hw.out⟩
  ·have a7:ps≠ []:=fun e=>h0 (.inl e)
   have b2:qs≠ []:=fun e=>h0 (.inr e)
   have lp:0<ps.length:=by cases ps with|nil=>exact absurd rfl a7|cons _ _=>simp
   have lq:0<qs.length:=by cases qs with|nil=>exact absurd rfl b2|cons _ _=>simp
   have lpi:(0:Int)<ps.length:=by omega
   have lqi:(0:Int)<qs.length:=by omega
   obtain⟨bp,op,rfl,-⟩:=b8 lp;obtain⟨bq,oq,rfl,-⟩:=b9 lq;have np:=yM a7;have nq:=yM b2;have c6:=Qa (Hp.out.cut np.2);have c7:=Qa (Hq.out.cut nq.2);have c5:=Qa (jG (Hp.out.below a0.out) a7 (c1.out.below a0.out));have c4:=Qa (fun w5 (h:Below wr.heap.size wr w5)=>jG ((Hq.out.below a0.out).below h) b2 ((c1.out.below a0.out).below h));have a6:=He.out;rw[jh a7,jh b2,bh] at a6;clear h0 a7 b2 b8 b9 He;generalize xQ ps=cp at *;generalize xQ qs=cq at *;generalize o4 ps=mp at *;generalize o4 qs=mq at *;obtain⟨np1,np2⟩:=np;obtain⟨nq1,nq2⟩:=nq
   by_cases hcc:cp=cq
   ·subst hcc;rw[if_neg (Int.lt_irrefl _),if_neg (Int.lt_irrefl _)] at a6;have He:=Qa a6;clear a6;go_wp2_with fail;refine Za c5 ?_;rintro e w3 ⟨rfl,a2⟩;have b1:=Qa a2;have b6:=Qa (c4.out w3 a2);clear a2;go_wp2_with fail;refine Za b6 ?_;rintro e w4 ⟨rfl,b0⟩;have b7:=Qa (a0.out.trans ((b1.out.trans (b0.mono b1.out.size)).mono a0.out.size));clear b0;go_wp2_with fail
    by_cases e1:c=mp <;> by_cases e2:d=mq
    all_goals
     go_quiet (fail);go_wp2_with fail;refine⟨⟨ps.drop mp,qs.drop mq,_,_,_,_,by rw[List.length_drop],by rw[List.length_drop],by rw[List.length_drop];first|exact zc Hp.out np2 e1|exact c6.out,by rw[List.length_drop];first|exact zc Hq.out nq2 e2|exact c7.out,He.out,av b7.out _⟩,?_⟩
     show ps.length - mp<ps.length
     omega
   ·have c8:(cp==cq)=false:=by simpa using hcc
    have c3:aw (bO fL xs) (bO fL ys)=sg cp cq:=by
     rw[a6];unfold sg
     by_cases h1:cp<cq
     ·rw[if_pos h1,if_pos h1]
     ·rw[if_neg h1,if_pos (by omega),if_neg h1,if_pos (by omega)]
    have He:=Qa c3;clear a6 c3 hcc;go_wp2_with fail;refine Za c5 ?_;rintro e w3 ⟨rfl,a2⟩;have b1:=Qa a2;have b6:=Qa (c4.out w3 a2);clear a2;go_wp2_with fail;refine Za b6 ?_;rintro e w4 ⟨rfl,b0⟩;have b7:=Qa (b5.out.trans ((a0.out.trans ((b1.out.trans (b0.mono b1.out.size)).mono a0.out.size)).mono b5.out.size));clear b0;go_wp2_with fail;refine a8.mono ?_;rintro e w5 ⟨rfl,rfl⟩;go_wp2_with fail;go_ret;rw[He.out];exact⟨rfl,b7.out⟩
theorem fZ:Calls Tryz.prog 45 #[.nilIface] w fun e w'=>e =.returned (.int .i64 0)/\Below w.heap.size w w':=by
 go_enter Tryz.func45,Tryz.ntmps45;go_wp2_with fail;go_ret;exact⟨rfl,Ze _ _⟩
theorem ee (h:VW P w v j):Calls Tryz.prog 45 #[v] w fun e w'=>e =.returned (.int .i64 j.kindOf)/\Below w.heap.size w w':=by
 cases h with
 |null=>
  go_enter Tryz.func45,Tryz.ntmps45;go_wp2_with fail;refine gP.mono ?_;rintro e w1 ⟨rfl,hb⟩;go_wp2_with fail;go_ret;exact⟨rfl,hb⟩
 |bool b=>
  go_enter Tryz.func45,Tryz.ntmps45;go_wp2_with fail;refine gD.mono ?_;rintro e w1 ⟨rfl,hb⟩;go_wp2_with fail;go_ret;exact⟨rfl,hb⟩
 |num d=>
  go_enter Tryz.func45,Tryz.ntmps45;go_wp2_with fail;refine iP.mono ?_;rintro e w1 ⟨rfl,hb⟩;go_wp2_with fail;go_ret;exact⟨rfl,hb⟩
 |text s=>
  go_enter Tryz.func45,Tryz.ntmps45;go_wp2_with fail;refine gT.mono ?_;rintro e w1 ⟨rfl,hb⟩;go_wp2_with fail;go_ret;exact⟨rfl,hb⟩
 |hole=>
  go_enter Tryz.func45,Tryz.ntmps45;go_wp2_with fail;refine gV.mono ?_;rintro e w1 ⟨rfl,hb⟩;go_wp2_with fail;go_ret;exact⟨rfl,hb⟩
 |bare=>
  go_enter Tryz.func45,Tryz.ntmps45;go_wp2_with fail;refine et.mono ?_;rintro e w1 ⟨rfl,hb⟩;go_wp2_with fail;go_ret;exact⟨rfl,hb⟩
 |list g A c us ks _ _ _ _ _=>
  go_enter Tryz.func45,Tryz.ntmps45;go_wp2_with fail;refine et.mono ?_;rintro e w1 ⟨rfl,hb⟩;go_wp2_with fail;go_ret;exact⟨rfl,hb⟩
 |obj g A c us ns ks _ _ _ _ _ _=>
  go_enter Tryz.func45,Tryz.ntmps45;go_wp2_with fail;refine gE.mono ?_;rintro e w1 ⟨rfl,hb⟩;go_wp2_with fail;go_ret;exact⟨rfl,hb⟩
def de (P:Nat->Prop)(w:World)(A:Option Addr)(us:List Value)(ks:List JV):Prop:=
 (A=none/\us = []/\ks = [])\/∃g R c,A=some ⟨g,0,none⟩/\w.heap[g]?=some (.cells #[.slice R us.length c] 153 (0,0))/\cA P w 32 1 R us.length c us/\us.length=ks.length
def td (P:Nat->Prop)(w:World)(us:List Value)(ks:List JV):Prop:= ∀ (i:Nat) u k,us[i]?=some u->ks[i]?=some k->VW P w u k
theorem de.len (h:de P w A us ks):us.length=ks.length:=by
 rcases h with ⟨-,rfl,rfl⟩|⟨_,_,_,_,_,_,h⟩
 ·rfl
 ·exact h
theorem de.below (h:de P w A us ks)(hb:Below w.heap.size w w'):de P w' A us ks:=by
 rcases h with h|⟨g,R,c,e,hg,hr,hl⟩
 ·exact .inl h
 ·exact .inr ⟨g,R,c,e,ai hg hb,hr.stay fun g o hp hg _ _=>⟨hp,(hb.block g (ae hg)).trans hg⟩,hl⟩
theorem td.below (h:td P w us ks)(hb:Below w.heap.size w w'):td P w' us ks:=fun i u k h1 h2=>(h i u k h1 h2).later hb
theorem VW.asList {t:Bool}{x:ByteArray}(h:VW P w v (.mk 5 t x d ns ks)):∃A us,v =.iface 48 (.pointer A)/\de P w A us ks/\td P w us ks:=by
 cases h with
 |bare=>exact⟨none, [],rfl,.inl ⟨rfl,rfl,rfl⟩,fun i u k h _=>by simp at h⟩
 |list g A c us ks hp hg hr hl hk=>exact⟨_,us,rfl,.inr ⟨g,A,c,rfl,hg,hr,hl⟩,hk⟩
def eD (P:Nat->Prop)(w:World)(A:Option Addr)(us:List Value)(ns:List ByteArray)(ks:List JV):Prop:=
 ∃g R c,A=some ⟨g,0,none⟩/\w.heap[g]?=some (.cells #[.slice R us.length c] 158 (0,0))/\cA P w 97 2 R us.length c (AW ns us)/\us.length=ks.length/\ns.length=ks.length
theorem eD.below (h:eD P w A us ns ks)(hb:Below w.heap.size w w'):eD P w' A us ns ks:=by
 obtain⟨g,R,c,e,hg,hr,hl⟩:=h;exact⟨g,R,c,e,ai hg hb,hr.stay fun g o hp hg _ _=>⟨hp,(hb.block g (ae hg)).trans hg⟩,hl⟩
theorem VW.asObj {t:Bool}{x:ByteArray}(h:VW P w v (.mk 6 t x d ns ks)):∃A us,v =.iface 116 (.pointer A)/\eD P w A us ns ks/\td P w us ks:=by
 cases h with
 |obj g A c us ns ks hp hg hr hl hn hk=>exact⟨_,us,rfl,⟨g,A,c,rfl,hg,hr,hl,hn⟩,hk⟩
theorem dR (h:de P w A us ks):Calls Tryz.prog 55 #[.pointer A] w fun e w'=>e =.returned (.int .i64 us.length)/\w=w':=by
 rcases h with ⟨rfl,rfl,rfl⟩|⟨g,R,c,rfl,hg,hr,hl⟩
 ·exact uU w
 ·exact ml hg
theorem ew (h:de P w A us ks)(hT:cG w)(i:Nat)(hu:us[i]?=some u):Calls Tryz.prog 56 #[.pointer A,.int .i64 i] w fun e w'=>e =.returned (.tuple #[.string ⟨(Lib.itoa i).toArray⟩,u])/\Below w.heap.size w w':=by
 have hi:=(List.getElem?_eq_some_iff.1 hu).1;rcases h with ⟨rfl,rfl,rfl⟩|⟨g,R,c,rfl,hg,hr,hl⟩
 ·simp at hi
 ·exact qO hT hg hr i hi hu
theorem eN (h:eD P w A us ns ks):Calls Tryz.prog 57 #[.pointer A] w fun e w'=>e =.returned (.int .i64 us.length)/\w=w':=by
 obtain⟨g,R,c,rfl,hg,hr,hl⟩:=h;exact m6 hg
theorem fe (h:eD P w A us ns ks)(i:Nat){n:ByteArray}(hu:us[i]?=some u)(hn:ns[i]?=some n):Calls Tryz.prog 58 #[.pointer A,.int .i64 i] w fun e w'=>e =.returned (.tuple #[.string n,u])/\Below w.heap.size w w':=by
 have hi:=(List.getElem?_eq_some_iff.1 hu).1;obtain⟨g,R,c,rfl,hg,hr,hl⟩:=h;have hm:=yO ns us i n u hn hu;exact ur hg hr i hi hm.1 hm.2
inductive JB:JV->Prop
 |mk (k:Int) (t:Bool) (x:ByteArray) (d:Dc) (ns:List ByteArray) (ks:List JV):x.size<=9223372036854775807->CR d->(∀n∈ns,n.size<=9223372036854775807)->(∀u∈ks,JB u)->JB (.mk k t x d ns ks)
def zi (W:World)(o:Bool)(ns ns':List ByteArray)(ks ks':List JV)(s19:Value)(wr:World):Prop:= ∃i:Nat,s19 =.int .i64 i/\i<=ks.length/\i<=ks'.length/\aw (JV.keys o ns ks) (JV.keys o ns' ks')=aw (JV.keys o (ns.drop i) (ks.drop i)) (JV.keys o (ns'.drop i) (ks'.drop i))/\Below W.heap.size W wr
theorem xM {B:Option Addr}(ha:de P w A us ks)(hb:de Q w B us' ks')(hT:cG w)
  (hl:us.length<=maxLen) (c8:us'.length<=maxLen)
  (H:∀ (i:Nat) u u' k k',us[i]?=some u->ks[i]?=some k->us'[i]?=some u'->ks'[i]?=some k'->∀w1,Below w.heap.size w w1->Calls Tryz.prog 24 #[u,u'] w1 fun e w'=>e =.returned (.int .i64 (dX k k'))/\Below w1.heap.size w1 w') :
  Calls Tryz.prog 48 #[.iface 48 (.pointer A),.iface 48 (.pointer B),.bool false] w fun e w'=>e =.returned (.int .i64 (aw (JV.keys false [] ks) (JV.keys false [] ks')))/\Below w.heap.size w w':=by
 have la:=ha.len;have lb:=hb.len;unfold maxLen at hl c8;have Ha:=Qa ha;have Hb:=Qa hb;have HT:=Qa hT;have HH:=Qa H;clear ha hb hT H;have Hl:=Qa (dR Ha.out);have a4:=Qa (dR Hb.out);have c5:=Qa la;have c7:=Qa lb;generalize hn:us.length=n at *;generalize hn':us'.length=n' at *;have Hn:=Qa hn;have b7:=Qa hn';clear hn hn' la lb;go_enter Tryz.func48,Tryz.ntmps48;go_wp2_with fail;refine Za Hl ?_;rintro e w3 ⟨rfl,rfl⟩;go_wp2_with fail;refine Za a4 ?_;rintro e w3 ⟨rfl,rfl⟩;go_wp2_with fail;obtain⟨m,hm,c0⟩:∃m:Nat,(min (n:Int) n')=m/\m=min n n':=⟨min n n',by omega,rfl⟩;rw[hm];have Hm:=Qa c0;have d0:m<=9223372036854775807:=by omega
 clear hm c0 Hl a4
 go_loopw [19] (fun s19 wr=>zi w false [] [] ks ks' s19 wr) (fun s19 _=>m - (intOf s19).toNat)
 case atStart=>exact⟨0,rfl,Zk _,Zk _,rfl,Ze _ _⟩
 case round=>
  obtain⟨i,rfl,c4,c3,he,a0⟩:=hrel;have a1:=Qa a0;have He:=Qa he;have Hi:=Qa (And.intro c4 c3);clear he c4 c3;have b8:=Qa (Ha.out.below a0);have b9:=Qa (Hb.out.below a0);have c6:=Qa (HT.out.below a0);clear a0
  by_cases h:i<m
  ·have c2:i<us.length:=by have:=Hm.out;have:=Hn.out;omega
   have c1:i<us'.length:=by have:=Hm.out;have:=b7.out;omega
   have b0:i<ks.length:=by have:=c5.out;have:=Hn.out;omega
   have a9:i<ks'.length:=by have:=c7.out;have:=b7.out;omega
   obtain⟨u,hu⟩:∃u,us[i]?=some u:=⟨_,Zd c2⟩;obtain⟨u',b6⟩:∃u,us'[i]?=some u:=⟨_,Zd c1⟩;obtain⟨k,hk⟩:∃u,ks[i]?=some u:=⟨_,Zd b0⟩;obtain⟨k',b4⟩:∃u,ks'[i]?=some u:=⟨_,Zd a9⟩;have Hp:=Qa (ew b8.out c6.out i hu);have Hq:=Qa (fun w5 (h:Below wr.heap.size wr w5)=>ew (b9.out.below h) (c6.out.below h) i b6);have Hc:=Qa (HH.out i u u' k k' hu hk b6 b4);have Hs:=Qa (show aw (JV.keys false [] ks) (JV.keys false [] ks')=if dX k k'=0 then aw (JV.keys false [] (ks.drop (i+1))) (JV.keys false [] (ks'.drop (i+1))) else dX k k' by
    rw[He.out,List.drop_eq_getElem_cons b0,List.drop_eq_getElem_cons a9,Aj];rw[(List.getElem?_eq_some_iff.1 hk).2,(List.getElem?_eq_some_iff.1 b4).2];simp)
   have Hk:=Qa (And.intro b0 a9);have h':(i:Int)<m:=by omega
   have w1:IntKind.i64.wrap ((i:Int)+1)= (i:Int)+1:=IntWalk.i64_in _ (by omega);clear c2 c1 b0 a9 hu b6 hk b4 He;generalize dX k k'=cc at *
   by_cases hc0:cc=0
   ·subst hc0;have b2:=Qa (Hs.out.trans (if_pos rfl));clear Hs;go_wp2_with fail;refine Za Hp ?_;rintro e w3 ⟨rfl,a2⟩;have a6:=Qa a2;have b1:=Qa (Hq.out w3 a2);clear a2;go_wp2_with fail;refine Za b1 ?_;rintro e w4 ⟨rfl,a5⟩;have a3:=Qa (a1.out.trans ((a6.out.trans (a5.mono a6.out.size)).mono a1.out.size));have b5:=Qa (Hc.out w4 a3.out);clear a5;go_wp2_with fail;refine Za b5 ?_;rintro e w5 ⟨rfl,a7⟩;have b3:=Qa (a3.out.trans (a7.mono a3.out.size));clear a7;go_wp2_with fail;refine⟨⟨i+1,rfl,Hk.out.1,Hk.out.2,b2.out,b3.out⟩,?_⟩
    show m - ((i:Int)+1).toNat<m - ((i:Int)).toNat
    omega
   ·have c9:(cc==0)=false:=by simpa using hc0
    have b2:=Qa (Hs.out.trans (if_neg hc0));clear Hs hc0;go_wp2_with fail;refine Za Hp ?_;rintro e w3 ⟨rfl,a2⟩;have a6:=Qa a2;have b1:=Qa (Hq.out w3 a2);clear a2;go_wp2_with fail;refine Za b1 ?_;rintro e w4 ⟨rfl,a5⟩;have a3:=Qa (a1.out.trans ((a6.out.trans (a5.mono a6.out.size)).mono a1.out.size));have b5:=Qa (Hc.out w4 a3.out);clear a5;go_wp2_with fail;refine Za b5 ?_;rintro e w5 ⟨rfl,a7⟩;have b3:=Qa (a3.out.trans (a7.mono a3.out.size));clear a7;go_wp2_with fail;go_ret;rw[b2.out];exact⟨rfl,b3.out⟩
  ·have h':¬ (i:Int)<m:=by omega
   have Hl:=Qa (dR b8.out);have a4:=Qa (dR b9.out);rw[Hn.out] at Hl;rw[b7.out] at a4;have Hz:=Qa (show aw (JV.keys false [] ks) (JV.keys false [] ks')=sg n n' by
    have h1:=Hm.out;have h2:=c5.out;have h3:=c7.out;have h4:=Hi.out;rw[He.out,uq]
    ·unfold sg;rw[List.length_drop,List.length_drop]
     (repeat' split) <;> first|rfl|omega
    ·rcases(by omega:ks.length<=i\/ks'.length<=i) with h|h
     ·exact .inl (List.drop_eq_nil_of_le h)
     ·exact .inr (List.drop_eq_nil_of_le h))
   clear He;go_wp2_with fail;refine Za Hl ?_;rintro e w3 ⟨rfl,rfl⟩;go_wp2_with fail;refine Za a4 ?_;rintro e w3 ⟨rfl,rfl⟩;go_wp2_with fail;refine a8.mono ?_;rintro e w3 ⟨rfl,rfl⟩;go_wp2_with fail;go_ret;rw[Hz.out];exact⟨rfl,a1.out⟩
