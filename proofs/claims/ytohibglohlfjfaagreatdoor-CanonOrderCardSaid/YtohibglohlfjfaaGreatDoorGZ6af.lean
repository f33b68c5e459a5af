import Derived.Test.YtohibglohlfjfaaGreatDoorGZ6ae
set_option linter.unusedVariables false
set_option linter.unusedSimpArgs false
set_option maxHeartbeats 64000000
set_option maxRecDepth 100000
namespace Go.Proofs.YtohibglohlfjfaaGreatDoor
open Go.RowKit
variable {cells old:Array Value}{xs:List UInt8}{g n:Nat}{ty:TypeId}{v:Value}{w:World}
theorem bz {fn:Func}{p q:Tmp}(h:fn.results = #[.tmp p,.cell q 62])(tmps:Array Value)(w:World)(g:Nat)(t:TypeId)(c0 c1 c2 c3:Value)(fr:Nat×Nat)
  (hp:tmps.getD q undef =.pointer (some ⟨g,0,none⟩)) (hg:w.heap[g]?=some (.cells #[c0,c1,c2,c3] t fr)) :
  (results fn tmps).run Tryz.prog w =.ok (.tuple #[tmps.getD p undef,.agg #[c0,c1,c2,c3]]) w:=by
 have a0:tmps[q]?.getD undef =.pointer (some ⟨g,0,none⟩):=by simpa using hp
 have hl:=run_loadVar_row (P:=Tryz.prog) w g t 62 #[c0,c1,c2,c3] fr _ hg Tryz.underlying62 rfl bi;simp[results,h,a0,asAddr,hl]
theorem aM {fn:Func}{p u q:Tmp}(h:fn.results = #[.tmp p,.tmp u,.cell q 62])(tmps:Array Value)(w:World)(g:Nat)(t:TypeId)(c0 c1 c2 c3:Value)(fr:Nat×Nat)
  (hp:tmps.getD q undef =.pointer (some ⟨g,0,none⟩)) (hg:w.heap[g]?=some (.cells #[c0,c1,c2,c3] t fr)) :
  (results fn tmps).run Tryz.prog w =.ok (.tuple #[tmps.getD p undef,tmps.getD u undef,.agg #[c0,c1,c2,c3]]) w:=by
 have a0:tmps[q]?.getD undef =.pointer (some ⟨g,0,none⟩):=by simpa using hp
 have hl:=run_loadVar_row (P:=Tryz.prog) w g t 62 #[c0,c1,c2,c3] fr _ hg Tryz.underlying62 rfl bi;simp[results,h,a0,asAddr,hl]
theorem nh {ops:Array Oper}{o:Oper}{a:Act}{K:Act->World->Prop}{Q:Exit->Act->World->Prop}{E:Prop}(a1:o.guard=none)(ty:TypeId)(x y:Operand)(ho:o.op =.store ty x y)
  (g:Nat) (cells:Array Value) (hx:a.eval x =.pointer (some ⟨g,0,none⟩)) (hy:a.eval y =.agg cells)
  (t:TypeId) (old:Array Value) (hg:w.heap[g]?=some (.cells old t (0,0))) (hi:(Tryz.prog.info? ty).map (·.size)=some cells.size)
  (a0:old.size=cells.size) (h1:cells.all (·.oneCell')=true)
  (h:K (a.put o.dst undef) (w.setRow g cells)):if Region.wanted o (yielded ops a.tmps)=true then Oper.wp Tryz.prog o a w K Q else E:=by
 have hw:Region.wanted o (yielded ops a.tmps)=true:=by simp[Region.wanted,a1]
 rw[if_pos hw];exact wp_store_row ty x y ho g cells hx hy t old hg hi a0 h1 h
theorem bM {ops:Array Oper}{o:Oper}{a:Act}{K:Act->World->Prop}{Q:Exit->Act->World->Prop}{E:Prop}{t:TypeId}{x y:Operand}(hg:w.heap[g]?=some (.cells old t (0,0)))(h:K (a.put o.dst undef) (w.setRow g cells))
  (ho:o.op =.store ty x y:=by exact rfl) (hx:a.eval x =.pointer (some ⟨g,0,none⟩):=by exact rfl) (hy:a.eval y =.agg cells:=by exact rfl) (a1:o.guard=none:=by exact rfl)
  (hi:(Tryz.prog.info? ty).map (·.size)=some cells.size:=by kernel_rfl) (a0:old.size=cells.size:=by exact rfl) (h1:cells.all (·.oneCell')=true:=by simp[Value.oneCell']):if Region.wanted o (yielded ops a.tmps)=true then Oper.wp Tryz.prog o a w K Q else E:=
 nh a1 ty x y ho g cells hx hy t old hg hi a0 h1 h
def GC (w:World)(e:Ending)(w':World):Prop:=(∃r:Int,e =.returned (.int .i32 r)/\0<=r/\r<=127)/\w=w'
theorem Bw (c:Nat)(h:c<256)(w:World):Calls Tryz.prog 216 #[.int .u8 (c:Int)] w (GC w):=by
 obtain⟨x,hx,h0,h1⟩:∃x:Int,(c:Int)=x/\0<=x/\x<=255:=⟨c,rfl,by omega,by omega⟩;rw[hx];clear hx h;go_enter Tryz.func216,Tryz.ntmps216;go_wp2_with fail
 all_goals
  go_ret;refine⟨⟨_,rfl,?_,?_⟩,rfl⟩ <;> first|omega|(simp_all;done)|(simp_all;omega)
def JT (w:World)(e:Ending)(w':World):Prop:=(∃d:Int,e =.returned (.int .i64 d)/\ -1<=d/\d<=15)/\w=w'
theorem E2 (c:Nat)(h:c<256)(w:World):Calls Tryz.prog 230 #[.int .u8 (c:Int)] w (JT w):=by
 obtain⟨x,hx,h0,h1⟩:∃x:Int,(c:Int)=x/\0<=x/\x<=255:=⟨c,rfl,by omega,by omega⟩;rw[hx];clear hx h;go_enter Tryz.func230,Tryz.ntmps230;go_wp2_with fail
 all_goals
  go_ret;refine⟨⟨_,rfl,?_,?_⟩,rfl⟩ <;> omega
def Jd (len k:Nat)(w:World)(e:Ending)(w':World):Prop:=(∃n x:Nat,e =.returned (.tuple #[.int .i64 n,.int .i64 x])/\n<=4/\x<16 ^ n/\(n=0\/k+n<=len))/\w=w'
def EK (w:World)(len k:Nat)(s6 s7:Value)(wr:World):Prop:= ∃n x:Nat,n<=4/\x<16 ^ n/\(n=0\/k+n<=len)/\s6 =.int .i64 n/\s7 =.int .i64 x/\w=wr
theorem Jj {x:Nat}(hn:n<4)(hx:x<16 ^ n):x<4096:=by
 rcases(by omega:n=0\/n=1\/n=2\/n=3) with rfl|rfl|rfl|rfl <;> omega
theorem xN {x d:Nat}(hx:x<16 ^ n)(hd:d<=15):16*x+d<16 ^ (n+1):=by
 rw[Nat.pow_succ];omega
theorem sS (hb:Bs w v xs)(hl:xs.length<=1000000)(k:Nat)(hk:k<=1000000){a:Int}(ha:a=k):Calls Tryz.prog 217 #[v,.int .i64 a] w (Jd xs.length k w):=by
 subst ha;obtain⟨hm,A,cap,rfl,a5,a0⟩:=id hb;have a1:=Qa a0;clear hb a0;go_enter Tryz.func217,Tryz.ntmps217;go_wp2_with fail
 go_loopw [6,7] (EK w xs.length k) (fun n _ _=>4 - (intOf n).toNat)
 case atStart=>exact⟨0,0,by omega,by simp,.inl rfl,rfl,rfl,rfl⟩
 case round=>
  obtain⟨n,x,hn,hx,a3,rfl,rfl,rfl⟩:=hrel
  by_cases h4:n<4
  ·have a6:(n:Int)<4:=by omega
   have b1:=Jj h4 hx
   by_cases hin:k+n<xs.length
   ·have a2:(k:Int)+n<xs.length:=by omega
    obtain⟨b,o,rfl,a4⟩:=a1.out (by omega);have c1:=a4 (k+n) hin;have a7:=aI xs (k+n);clear a4;go_wp2_with fail;refine(E2 _ a7 w).mono ?_;rintro e w' ⟨⟨d,rfl,a9,b0⟩,rfl⟩
    by_cases hd:d<0
    ·go_wp2_with fail;go_ret2;exact⟨⟨n,x,rfl,hn,hx,a3⟩,rfl⟩
    ·obtain⟨d',rfl⟩:∃d':Nat,d=d':=⟨d.toNat,by omega⟩;go_wp2_with fail;exact⟨⟨n+1,16*x+d',by omega,xN hx (by omega),.inr (by omega),by go_num,by congr 1,rfl⟩,by simp[intOf];omega⟩
   ·have a2:¬ (k:Int)+n<xs.length:=by omega
    go_wp2_with fail;go_ret2;exact⟨⟨n,x,rfl,hn,hx,a3⟩,rfl⟩
  ·have a6:¬ (n:Int)<4:=by omega
   go_wp2_with fail;go_ret2;exact⟨⟨n,x,rfl,hn,hx,a3⟩,rfl⟩
theorem Dx:∀x:Nat,x<256->bits .and .i64 (x:Int) 15= ((x % 16:Nat):Int):=by decide +kernel
theorem GV {x:Nat}(h:x<65536)(h1:(x:Int)/4096=13)(h2:12<=bits .and .i64 ((x:Int)/256) 15):56320<=(x:Int)/\(x:Int)<=57343:=by
 have e:(x:Int)/256= ((x/256:Nat):Int):=by omega
 rw[e,Dx (x/256) (by omega)] at h2;omega
def JL (len k:Nat)(w:World)(e:Ending)(w':World):Prop:= ∃ (y c:Int) (u:Value),e =.returned (.tuple #[.int .i64 y,u])/\dE w' c u/\Below w.heap.size w w'/\(c=0->56320<=y/\y<=57343/\k+6<=len)
theorem Ex (hb:Bs w v xs)(hl:xs.length<=1000000)(k:Nat)(hk:k<=xs.length){a:Int}(ha:a=k)(a0:Int):Calls Tryz.prog 218 #[v,.int .i64 a,.int .i64 a0] w (JL xs.length k w):=by
 subst ha;obtain⟨hm,A,cap,rfl,b0,a3⟩:=id hb;have a4:=Qa a3;have a9:=Qa hb;have a2:=Qa (Zf w (.cells #[.int .i64 0,.int .i64 0,.int .i64 0,.slice none 0 0] 62));have Hb:=Qa (ac w (.cells #[.int .i64 0,.int .i64 0,.int .i64 0,.slice none 0 0] 62));clear hb a3;go_enter Tryz.func218,Tryz.ntmps218
 by_cases e1:k=xs.length
 ·have e1':((k:Int)==xs.length)=true:=by simp[e1]
  clear e1;go_wp2_with fail;generalize (w.alloc (.cells #[.int .i64 0,.int .i64 0,.int .i64 0,.slice none 0 0] 62))=w0 at *;refine(aJ 103 xs.length w0).mono ?_;rintro e wz ⟨u,rfl,hu,a1⟩;obtain⟨fh,fl,fA,fq,fr,rfl,Hh,H1,H2⟩:=bg hu a1 a2.out Hb.out (Zb _);clear hu a1;go_wp2_with (refine bF Hh.out ?_);exact Zh (bz Tryz.results218 _ _ _ _ _ _ _ _ (0,0) (by simp) (setRow_heap _ _ _ _ _ _ Hh.out)) rfl ⟨_,103,_,rfl,H2.out,H1.out,fun h=>by cases h⟩
 ·have e1':((k:Int)==xs.length)=false:=by simp;omega
  have hki:(k:Int)<xs.length:=by omega
  obtain⟨b,o,rfl,a5⟩:=a4.out (by omega);have c1:=Zg Hb.out (a5 k (by omega));have c2:k+1<xs.length->(w.alloc (.cells #[.int .i64 0,.int .i64 0,.int .i64 0,.slice none 0 0] 62)).cell? ⟨b,o+ (k+1),none⟩=some (.int .u8 (am xs (k+1))):=fun h=>Zg Hb.out (a5 (k+1) h)
  have C2:=Qa c2;have b4:=aI xs k;have b2:=aI xs (k+1);clear a5 c2
  by_cases q1:am xs k=92
  case neg=>
   have q1':((am xs k:Int) !=92)=true:=by simp;omega
   clear q1;go_wp2_with fail;generalize (w.alloc (.cells #[.int .i64 0,.int .i64 0,.int .i64 0,.slice none 0 0] 62))=w0 at *;refine(aJ 106 a0 w0).mono ?_;rintro e wz ⟨u,rfl,hu,a1⟩;obtain⟨fh,fl,fA,fq,fr,rfl,Hh,H1,H2⟩:=bg hu a1 a2.out Hb.out (Zb _);clear hu a1;go_wp2_with (refine bF Hh.out ?_);exact Zh (bz Tryz.results218 _ _ _ _ _ _ _ _ (0,0) (by simp) (setRow_heap _ _ _ _ _ _ Hh.out)) rfl ⟨_,106,_,rfl,H2.out,H1.out,fun h=>by cases h⟩
  have q1':((am xs k:Int) !=92)=false:=by simp[q1]
  clear q1
  by_cases e2:k+1=xs.length
  ·have e2':((k:Int)+1==xs.length)=true:=by simp;omega
   clear e2;go_wp2_with fail;generalize (w.alloc (.cells #[.int .i64 0,.int .i64 0,.int .i64 0,.slice none 0 0] 62))=w0 at *;refine(aJ 103 xs.length w0).mono ?_;rintro e wz ⟨u,rfl,hu,a1⟩;obtain⟨fh,fl,fA,fq,fr,rfl,Hh,H1,H2⟩:=bg hu a1 a2.out Hb.out (Zb _);clear hu a1;go_wp2_with (refine bF Hh.out ?_);exact Zh (bz Tryz.results218 _ _ _ _ _ _ _ _ (0,0) (by simp) (setRow_heap _ _ _ _ _ _ Hh.out)) rfl ⟨_,103,_,rfl,H2.out,H1.out,fun h=>by cases h⟩
  have e2':((k:Int)+1==xs.length)=false:=by simp;omega
  have b1:(k:Int)+1<xs.length:=by omega
  have c2:=C2.out (by omega)
  by_cases q2:am xs (k+1)=117
  case neg=>
   have q2':((am xs (k+1):Int) !=117)=true:=by simp;omega
   clear q2;go_wp2_with fail;generalize (w.alloc (.cells #[.int .i64 0,.int .i64 0,.int .i64 0,.slice none 0 0] 62))=w0 at *;refine(aJ 106 a0 w0).mono ?_;rintro e wz ⟨u,rfl,hu,a1⟩;obtain⟨fh,fl,fA,fq,fr,rfl,Hh,H1,H2⟩:=bg hu a1 a2.out Hb.out (Zb _);clear hu a1;go_wp2_with (refine bF Hh.out ?_);exact Zh (bz Tryz.results218 _ _ _ _ _ _ _ _ (0,0) (by simp) (setRow_heap _ _ _ _ _ _ Hh.out)) rfl ⟨_,106,_,rfl,H2.out,H1.out,fun h=>by cases h⟩
  have q2':((am xs (k+1):Int) !=117)=false:=by simp[q2]
  clear q2;go_wp2_with fail;generalize (w.alloc (.cells #[.int .i64 0,.int .i64 0,.int .i64 0,.slice none 0 0] 62))=w0 at *;refine(sS (a9.out.below Hb.out) hl (k+2) (by omega) (by omega)).mono ?_;rintro e w' ⟨⟨n,x,rfl,hn,hx,b3⟩,rfl⟩;rcases(by omega:n=4\/n=3\/n=2\/n=1\/n=0) with rfl|rfl|rfl|rfl|rfl
  ·have a7:x<65536:=by omega
   clear hx;go_wp2_with fail
   all_goals first
    |(with_reducible refine(aJ 106 a0 w0).mono ?_
      rintro e wz ⟨u,rfl,hu,a1⟩;obtain⟨fh,fl,fA,fq,fr,rfl,Hh,H1,H2⟩:=bg hu a1 a2.out Hb.out (Zb _);clear hu a1;go_wp2_with (refine bF Hh.out ?_);exact Zh (bz Tryz.results218 _ _ _ _ _ _ _ _ (0,0) (by simp) (setRow_heap _ _ _ _ _ _ Hh.out)) rfl ⟨_,106,_,rfl,H2.out,H1.out,fun h=>by cases h⟩
     )
    |(with_reducible refine(aJ 103 xs.length w0).mono ?_
      rintro e wz ⟨u,rfl,hu,a1⟩;obtain⟨fh,fl,fA,fq,fr,rfl,Hh,H1,H2⟩:=bg hu a1 a2.out Hb.out (Zb _);clear hu a1;go_wp2_with (refine bF Hh.out ?_);exact Zh (bz Tryz.results218 _ _ _ _ _ _ _ _ (0,0) (by simp) (setRow_heap _ _ _ _ _ _ Hh.out)) rfl ⟨_,103,_,rfl,H2.out,H1.out,fun h=>by cases h⟩
     )
    |(with_reducible refine(eo w0).mono ?_
      have g1:(x:Int)/4096=13:=by assumption
      have g2:12<=bits .and .i64 ((x:Int)/256) 15:=by assumption
      have g3:=Qa (GV a7 g1 g2);clear g1 g2;rintro e wz ⟨u,rfl,hu,a1⟩;obtain⟨fh,fl,fA,fq,fr,rfl,Hh,H1,H2⟩:=bg hu a1 a2.out Hb.out (Zb _);clear hu a1;go_wp2_with (refine bF Hh.out ?_);exact Zh (bz Tryz.results218 _ _ _ _ _ _ _ _ (0,0) (by simp) (setRow_heap _ _ _ _ _ _ Hh.out)) rfl ⟨_,0,_,rfl,H2.out,H1.out,fun _=>⟨g3.out.1,g3.out.2,by omega⟩⟩
     )
  ·have a6:x<4096:=by omega
   clear hx;go_wp2_with fail
   all_goals first
    |(with_reducible refine(aJ 106 a0 w0).mono ?_
      rintro e wz ⟨u,rfl,hu,a1⟩;obtain⟨fh,fl,fA,fq,fr,rfl,Hh,H1,H2⟩:=bg hu a1 a2.out Hb.out (Zb _);clear hu a1;go_wp2_with (refine bF Hh.out ?_);exact Zh (bz Tryz.results218 _ _ _ _ _ _ _ _ (0,0) (by simp) (setRow_heap _ _ _ _ _ _ Hh.out)) rfl ⟨_,106,_,rfl,H2.out,H1.out,fun h=>by cases h⟩
     )
    |(with_reducible refine(aJ 103 xs.length w0).mono ?_
      rintro e wz ⟨u,rfl,hu,a1⟩;obtain⟨fh,fl,fA,fq,fr,rfl,Hh,H1,H2⟩:=bg hu a1 a2.out Hb.out (Zb _);clear hu a1;go_wp2_with (refine bF Hh.out ?_);exact Zh (bz Tryz.results218 _ _ _ _ _ _ _ _ (0,0) (by simp) (setRow_heap _ _ _ _ _ _ Hh.out)) rfl ⟨_,103,_,rfl,H2.out,H1.out,fun h=>by cases h⟩
     )
  ·have a6:x<256:=by omega
   clear hx;go_wp2_with fail
   all_goals first
    |(with_reducible refine(aJ 106 a0 w0).mono ?_
      rintro e wz ⟨u,rfl,hu,a1⟩;obtain⟨fh,fl,fA,fq,fr,rfl,Hh,H1,H2⟩:=bg hu a1 a2.out Hb.out (Zb _);clear hu a1;go_wp2_with (refine bF Hh.out ?_);exact Zh (bz Tryz.results218 _ _ _ _ _ _ _ _ (0,0) (by simp) (setRow_heap _ _ _ _ _ _ Hh.out)) rfl ⟨_,106,_,rfl,H2.out,H1.out,fun h=>by cases h⟩
     )
    |(with_reducible refine(aJ 103 xs.length w0).mono ?_
      rintro e wz ⟨u,rfl,hu,a1⟩;obtain⟨fh,fl,fA,fq,fr,rfl,Hh,H1,H2⟩:=bg hu a1 a2.out Hb.out (Zb _);clear hu a1;go_wp2_with (refine bF Hh.out ?_);exact Zh (bz Tryz.results218 _ _ _ _ _ _ _ _ (0,0) (by simp) (setRow_heap _ _ _ _ _ _ Hh.out)) rfl ⟨_,103,_,rfl,H2.out,H1.out,fun h=>by cases h⟩
     )
  ·have a6:x<16:=by omega
   clear hx;go_wp2_with fail
   all_goals first
    |(with_reducible refine(aJ 106 a0 w0).mono ?_
      rintro e wz ⟨u,rfl,hu,a1⟩;obtain⟨fh,fl,fA,fq,fr,rfl,Hh,H1,H2⟩:=bg hu a1 a2.out Hb.out (Zb _);clear hu a1;go_wp2_with (refine bF Hh.out ?_);exact Zh (bz Tryz.results218 _ _ _ _ _ _ _ _ (0,0) (by simp) (setRow_heap _ _ _ _ _ _ Hh.out)) rfl ⟨_,106,_,rfl,H2.out,H1.out,fun h=>by cases h⟩
     )
    |(with_reducible refine(aJ 103 xs.length w0).mono ?_
      rintro e wz ⟨u,rfl,hu,a1⟩;obtain⟨fh,fl,fA,fq,fr,rfl,Hh,H1,H2⟩:=bg hu a1 a2.out Hb.out (Zb _);clear hu a1;go_wp2_with (refine bF Hh.out ?_);exact Zh (bz Tryz.results218 _ _ _ _ _ _ _ _ (0,0) (by simp) (setRow_heap _ _ _ _ _ _ Hh.out)) rfl ⟨_,103,_,rfl,H2.out,H1.out,fun h=>by cases h⟩
     )
  ·have a6:x<1:=by omega
   clear hx;go_wp2_with fail
   all_goals first
    |(with_reducible refine(aJ 106 a0 w0).mono ?_
      rintro e wz ⟨u,rfl,hu,a1⟩;obtain⟨fh,fl,fA,fq,fr,rfl,Hh,H1,H2⟩:=bg hu a1 a2.out Hb.out (Zb _);clear hu a1;go_wp2_with (refine bF Hh.out ?_);exact Zh (bz Tryz.results218 _ _ _ _ _ _ _ _ (0,0) (by simp) (setRow_heap _ _ _ _ _ _ Hh.out)) rfl ⟨_,106,_,rfl,H2.out,H1.out,fun h=>by cases h⟩
     )
    |(with_reducible refine(aJ 103 xs.length w0).mono ?_
      rintro e wz ⟨u,rfl,hu,a1⟩;obtain⟨fh,fl,fA,fq,fr,rfl,Hh,H1,H2⟩:=bg hu a1 a2.out Hb.out (Zb _);clear hu a1;go_wp2_with (refine bF Hh.out ?_);exact Zh (bz Tryz.results218 _ _ _ _ _ _ _ _ (0,0) (by simp) (setRow_heap _ _ _ _ _ _ Hh.out)) rfl ⟨_,103,_,rfl,H2.out,H1.out,fun h=>by cases h⟩
     )
def JH (len k:Nat)(w:World)(e:Ending)(w':World):Prop:= ∃ (r:Int) (n:Nat) (c:Int) (u:Value),e =.returned (.tuple #[.int .i32 r,.int .i64 n,u])/\dE w' c u/\Below w.heap.size w w'/\(c=0->dF r=true/\2<=n/\k+n<=len/\(bE r).length<=n)
theorem EE {r:Int}(h:0<=r)(h2:r<128):(bE r).length<=2:=by
 obtain⟨n,rfl⟩:∃n:Nat,r=n:=⟨r.toNat,by omega⟩;rw[od n (by omega)];simp
theorem rf {r:Int}(h:0<=r/\r<=1114111/\(r<55296\/57343<r)):dF r=true:=by
 unfold dF;simp;omega
theorem xg (hb:Bs w v xs)(hl:xs.length<=1000000)(k:Nat)(hk:k<xs.length){a:Int}(ha:a=k):Calls Tryz.prog 202 #[v,.int .i64 a] w (JH xs.length k w):=by
 subst ha;obtain⟨hm,A,cap,rfl,c0,a4⟩:=id hb;obtain⟨b,o,rfl,b7⟩:=a4 (by omega);have b9:=Qa hb;have a1:=Qa (Zf w (.cells #[.int .i64 0,.int .i64 0,.int .i64 0,.slice none 0 0] 62));have Hb:=Qa (ac w (.cells #[.int .i64 0,.int .i64 0,.int .i64 0,.slice none 0 0] 62));have c1:=Zg Hb.out (b7 k hk);have C2:=Qa (show k+1<xs.length->(w.alloc (.cells #[.int .i64 0,.int .i64 0,.int .i64 0,.slice none 0 0] 62)).cell? ⟨b,o+ (k+1),none⟩=some (.int .u8 (am xs (k+1))) from fun h=>Zg Hb.out (b7 (k+1) h));have c4:=aI xs (k+1);have hki:(k:Int)<xs.length:=by omega
 clear hb a4 b7;go_enter Tryz.func202,Tryz.ntmps202
 by_cases e2:k+1=xs.length
 ·have e2':((k:Int)+1==xs.length)=true:=by simp;omega
  clear e2;go_wp2_with fail;generalize (w.alloc (.cells #[.int .i64 0,.int .i64 0,.int .i64 0,.slice none 0 0] 62))=w0 at *;refine(aJ 103 xs.length w0).mono ?_;rintro e wz ⟨u,rfl,hu,a0⟩;obtain⟨fh,fl,fA,fq,fr,rfl,Hh,H1,H2⟩:=bg hu a0 a1.out Hb.out (Zb _);clear hu a0;go_wp2_with (refine bF Hh.out ?_);exact Zh (aM Tryz.results202 _ _ _ _ _ _ _ _ (0,0) (by simp) (setRow_heap _ _ _ _ _ _ Hh.out)) rfl ⟨0,0,103,_,rfl,H2.out,H1.out,fun h=>by cases h⟩
 have e2':((k:Int)+1==xs.length)=false:=by simp;omega
 have c3:(k:Int)+1<xs.length:=by omega
 have c2:=C2.out (by omega)
 by_cases q2:am xs (k+1)=117
 case neg=>
  have q2':((am xs (k+1):Int) !=117)=true:=by simp;omega
  clear q2;go_wp2_with fail;generalize (w.alloc (.cells #[.int .i64 0,.int .i64 0,.int .i64 0,.slice none 0 0] 62))=w0 at *;refine(Bw _ c4 w0).mono ?_;rintro e w' ⟨⟨r,rfl,d4,c6⟩,rfl⟩
  by_cases hr0:r=0
  ·subst hr0;go_wp2_with fail;refine(aJ 105 k w0).mono ?_;rintro e wz ⟨u,rfl,hu,a0⟩;obtain⟨fh,fl,fA,fq,fr,rfl,Hh,H1,H2⟩:=bg hu a0 a1.out Hb.out (Zb _);clear hu a0;go_wp2_with (refine bF Hh.out ?_);exact Zh (aM Tryz.results202 _ _ _ _ _ _ _ _ (0,0) (by simp) (setRow_heap _ _ _ _ _ _ Hh.out)) rfl ⟨0,0,105,_,rfl,H2.out,H1.out,fun h=>by cases h⟩
  ·have c5:(r==0)=false:=by simpa using hr0
   clear hr0;go_wp2_with fail;refine(eo w0).mono ?_;rintro e wz ⟨u,rfl,hu,a0⟩;obtain⟨fh,fl,fA,fq,fr,rfl,Hh,H1,H2⟩:=bg hu a0 a1.out Hb.out (Zb _);clear hu a0;go_wp2_with (refine bF Hh.out ?_);exact Zh (aM Tryz.results202 _ _ _ _ _ _ _ _ (0,0) (by simp) (setRow_heap _ _ _ _ _ _ Hh.out)) rfl ⟨r,2,0,_,rfl,H2.out,H1.out,fun _=>⟨rf ⟨by omega,by omega,.inl (by omega)⟩,by omega,by omega,EE (by omega) (by omega)⟩⟩
 have q2':((am xs (k+1):Int) !=117)=false:=by simp[q2]
 clear q2;go_wp2_with fail;generalize (w.alloc (.cells #[.int .i64 0,.int .i64 0,.int .i64 0,.slice none 0 0] 62))=w0 at *;refine(sS (b9.out.below Hb.out) hl (k+2) (by omega) (by omega)).mono ?_;rintro e w' ⟨⟨n,x,rfl,hn,hx,c9⟩,rfl⟩
 by_cases h4:n<4
 ·have d6:(n:Int)<4:=by omega
  by_cases hin:k+2+n<xs.length
  ·have b5:(k:Int)+2+n<xs.length:=by omega
   go_wp2_with fail;refine(aJ 105 k w0).mono ?_;rintro e wz ⟨u,rfl,hu,a0⟩;obtain⟨fh,fl,fA,fq,fr,rfl,Hh,H1,H2⟩:=bg hu a0 a1.out Hb.out (Zb _);clear hu a0;go_wp2_with (refine bF Hh.out ?_);exact Zh (aM Tryz.results202 _ _ _ _ _ _ _ _ (0,0) (by simp) (setRow_heap _ _ _ _ _ _ Hh.out)) rfl ⟨0,0,105,_,rfl,H2.out,H1.out,fun h=>by cases h⟩
  ·have b5:¬ (k:Int)+2+n<xs.length:=by omega
   go_wp2_with fail;refine(aJ 103 xs.length w0).mono ?_;rintro e wz ⟨u,rfl,hu,a0⟩;obtain⟨fh,fl,fA,fq,fr,rfl,Hh,H1,H2⟩:=bg hu a0 a1.out Hb.out (Zb _);clear hu a0;go_wp2_with (refine bF Hh.out ?_);exact Zh (aM Tryz.results202 _ _ _ _ _ _ _ _ (0,0) (by simp) (setRow_heap _ _ _ _ _ _ Hh.out)) rfl ⟨0,0,103,_,rfl,H2.out,H1.out,fun h=>by cases h⟩
 obtain rfl:n=4:=by omega
 obtain⟨X,hX,c8,c7⟩:∃X:Int,(x:Int)=X/\0<=X/\X<65536:=⟨x,rfl,by omega,by omega⟩;rw[hX];clear hx h4 hX
 by_cases r1:56320<=X
 ·by_cases r2:X<=57343
  ·skip
   go_wp2_with fail;refine(aJ 106 k w0).mono ?_;rintro e wz ⟨u,rfl,hu,a0⟩;obtain⟨fh,fl,fA,fq,fr,rfl,Hh,H1,H2⟩:=bg hu a0 a1.out Hb.out (Zb _);clear hu a0;go_wp2_with (refine bF Hh.out ?_);exact Zh (aM Tryz.results202 _ _ _ _ _ _ _ _ (0,0) (by simp) (setRow_heap _ _ _ _ _ _ Hh.out)) rfl ⟨0,0,106,_,rfl,H2.out,H1.out,fun h=>by cases h⟩
  ·have r3i:¬X<55296:=by omega
   go_wp2_with fail;refine(eo w0).mono ?_;rintro e wz ⟨u,rfl,hu,a0⟩;obtain⟨fh,fl,fA,fq,fr,rfl,Hh,H1,H2⟩:=bg hu a0 a1.out Hb.out (Zb _);clear hu a0;go_wp2_with (refine bF Hh.out ?_);exact Zh (aM Tryz.results202 _ _ _ _ _ _ _ _ (0,0) (by simp) (setRow_heap _ _ _ _ _ _ Hh.out)) rfl ⟨X,6,0,_,rfl,H2.out,H1.out,fun _=>⟨rf ⟨by omega,by omega,.inr (by omega)⟩,by omega,by omega,Zc (fV _) (by omega)⟩⟩
 by_cases r3:X<55296
 ·skip
  go_wp2_with fail;refine(eo w0).mono ?_;rintro e wz ⟨u,rfl,hu,a0⟩;obtain⟨fh,fl,fA,fq,fr,rfl,Hh,H1,H2⟩:=bg hu a0 a1.out Hb.out (Zb _);clear hu a0;go_wp2_with (refine bF Hh.out ?_);exact Zh (aM Tryz.results202 _ _ _ _ _ _ _ _ (0,0) (by simp) (setRow_heap _ _ _ _ _ _ Hh.out)) rfl ⟨X,6,0,_,rfl,H2.out,H1.out,fun _=>⟨rf ⟨by omega,by omega,.inl (by omega)⟩,by omega,by omega,Zc (fV _) (by omega)⟩⟩
 have r4i:¬57343<X:=by omega
 go_wp2_with fail;refine(Ex (b9.out.below Hb.out) hl (k+6) (by omega) (by omega) k).mono ?_;rintro e w1 ⟨y,c,u,rfl,⟨fh,fl,fs,rfl,b6⟩,a7,hy⟩;obtain⟨fA,fq,fr,rfl,-⟩:=b6.slice;rw[show dA c fh fl (.slice fA fq fr) =.agg #[.int .i64 c,.int .i64 fh,.int .i64 fl,.slice fA fq fr] from rfl];have b4:=ac w1 (.cells #[.int .i64 c,.int .i64 fh,.int .i64 fl,.slice fA fq fr] 62);have b1:=ap w1 [.int .i64 c,.int .i64 fh,.int .i64 fl,.slice fA fq fr] 62;have d0:=b1 0 _ rfl;have d1:=b1 1 _ rfl;have d2:=b1 2 _ rfl;have d3:=b1 3 _ rfl;have Hu:=Qa (show dE (w1.alloc (.cells #[.int .i64 c,.int .i64 fh,.int .i64 fl,.slice fA fq fr] 62)) c (dA c fh fl (.slice fA fq fr)) from⟨fh,fl,_,rfl,b6.below b4⟩);have b0:=Qa (Hb.out.trans ((a7.trans (b4.mono a7.size)).mono Hb.out.size));have a2:=Qa ((b4.block _ (Nat.lt_of_lt_of_le (ae a1.out) a7.size)).trans ((a7.block _ (ae a1.out)).trans a1.out));have Hy:=Qa hy;have b8:w.heap.size<w1.heap.size:=Nat.lt_of_lt_of_le (ae a1.out) a7.size;clear hy b1 b4 a7 b6
 by_cases hc:c=0
 ·obtain⟨y1,y2,y3⟩:=Hy.out hc;subst hc;go_wp2_with fail;generalize (w1.alloc (.cells #[.int .i64 0,.int .i64 fh,.int .i64 fl,.slice fA fq fr] 62))=w2 at *;refine(eo w2).mono ?_;rintro e wz ⟨u,rfl,hu,a0⟩;have Hh:=Qa ((a0.block _ (ae a2.out)).trans a2.out);obtain⟨fh,fl,fA,fq,fr,rfl,h1,h2⟩:=bH hu Hh.out;have H1:=Qa ((b0.out.trans (a0.mono b0.out.size)).grown h1 (Zc b0.out.size a0.size) (fun g e=>by cases e;exact Zb _));have H2:=Qa h2;have Hg:=Qa h1;have d5:=Qa a0;clear h1 h2 hu a0;go_wp2_with (refine bF Hh.out ?_);exact Zh (aM Tryz.results202 _ _ _ _ _ _ _ _ (0,0) (by simp) (setRow_heap _ _ _ _ _ _ Hh.out)) rfl ⟨65536+ (X - 55296)*1024+ (y - 56320),12,0,_,rfl,H2.out,H1.out,fun _=>⟨rf ⟨by omega,by omega,.inr (by omega)⟩,by omega,by omega,Zc (fV _) (by omega)⟩⟩
 ·have d9:(c !=0)=true:=by simpa using hc
  have Hc:=Qa hc;clear hc;go_wp2_with fail;generalize (w1.alloc (.cells #[.int .i64 c,.int .i64 fh,.int .i64 fl,.slice fA fq fr] 62))=w2 at *;obtain⟨gh,gl',gA,gq,gr,a9,h1,h2⟩:=bH (w:=w2.drew) Hu.out a2.out;injection a9 with a9
  obtain⟨rfl,rfl,a9⟩:fh=gh/\fl=gl'/\Value.slice fA fq fr=Value.slice gA gq gr:=by simpa using a9
  obtain⟨rfl,rfl,rfl⟩:fA=gA/\fq=gq/\fr=gr:=by simpa using a9
  have H1:=Qa ((b0.out.drew).grown h1 b0.out.size (fun g e=>by cases e;exact Zb _));have H2:=Qa h2;have hne:some (w1.heap.size)≠some (w.heap.size):=fun e=>by injection e with e;exact(Nat.ne_of_gt b8) e
  have a3:w2.drew.cell? ⟨w1.heap.size,0,none⟩=some (.int .i64 c)/\w2.drew.cell? ⟨w1.heap.size,1,none⟩=some (.int .i64 fh)/\w2.drew.cell? ⟨w1.heap.size,2,none⟩=some (.int .i64 fl)/\w2.drew.cell? ⟨w1.heap.size,3,none⟩=some (.slice fA fq fr):=⟨d0,d1,d2,d3⟩;have a5:(w2.drew.setRow (w.heap.size) #[.int .i64 c,.int .i64 fh,.int .i64 fl,.slice fA fq fr]).cell? ⟨w1.heap.size,0,none⟩=some (.int .i64 c)/\(w2.drew.setRow (w.heap.size) #[.int .i64 c,.int .i64 fh,.int .i64 fl,.slice fA fq fr]).cell? ⟨w1.heap.size,1,none⟩=some (.int .i64 fh)/\(w2.drew.setRow (w.heap.size) #[.int .i64 c,.int .i64 fh,.int .i64 fl,.slice fA fq fr]).cell? ⟨w1.heap.size,2,none⟩=some (.int .i64 fl)/\(w2.drew.setRow (w.heap.size) #[.int .i64 c,.int .i64 fh,.int .i64 fl,.slice fA fq fr]).cell? ⟨w1.heap.size,3,none⟩=some (.slice fA fq fr):=⟨(ah _ _ _).cell d0 hne,(ah _ _ _).cell d1 hne,(ah _ _ _).cell d2 hne,(ah _ _ _).cell d3 hne⟩;have a6:=Qa a3;have b2:=Qa a5;clear h1 h2 a9 a3 a5 hne d0 d1 d2 d3;refine aA (fun w'=>w'.cell? ⟨w1.heap.size,0,none⟩=some (.int .i64 c)/\w'.cell? ⟨w1.heap.size,1,none⟩=some (.int .i64 fh)/\w'.cell? ⟨w1.heap.size,2,none⟩=some (.int .i64 fl)/\w'.cell? ⟨w1.heap.size,3,none⟩=some (.slice fA fq fr)) (a6.out) fun b3=>?_
  refine tH 0 b3 ?_;refine tH 1 b3 ?_;refine tH 2 b3 ?_
  try simp only[Act.put,jP,jQ,jR]
  refine rH 3 fun K hK=>?_
  refine bM a2.out ?_;refine hK.out _ _ (b2.out) (fun b3=>?_);clear hK K
  try simp only[Act.put,jP,jQ,jR]
  refine wpAnyH_done (by kernel_rfl) (NoPanic.normal ?_) _;go_wp2_with fail;exact Zh (aM Tryz.results202 _ _ _ _ _ _ _ _ (0,0) (by simp) (setRow_heap _ _ _ _ _ _ a2.out)) rfl ⟨0,0,c,_,rfl,H2.out,H1.out,fun h=>absurd h Hc.out⟩
