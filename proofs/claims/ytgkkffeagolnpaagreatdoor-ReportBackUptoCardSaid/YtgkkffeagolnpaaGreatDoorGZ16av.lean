import Derived.Test.YtgkkffeagolnpaaGreatDoorGZ16au
set_option linter.unusedVariables false
set_option linter.unusedSimpArgs false
set_option maxHeartbeats 64000000
namespace Go.Proofs.YtgkkffeagolnpaaGreatDoor
open Go
variable {var:Addr}{args:Array Value}{f:Fr}{j:JV}{frs fs:List Fr}{d' g i q want:Nat}{v:Value}{w w' w0:World}
def Iq {α:Type}(d:Nat):Result α->Prop
 | .ok _ w=>d<=w.drawn
 | .halt _ w=>d<=w.drawn
theorem Iq.mono {α:Type}{d:Nat}(h:d<=d'):∀ {r:Result α},Iq d' r->Iq d r
 | .ok _ _,k=>Zc h k
 | .halt _ _,k=>Zc h k
theorem vX {α:Type}:∀ (a:Ask α) (w:World),w.drawn<=(w.ask a).2.drawn
 | .done _,_=>Zb _
 | .ask what range k,w=>by
  unfold World.ask
  dsimp only
  split
  ·exact vX _ w
  ·exact Zc (Nat.le_succ _) (vX _ {w with drawn:=w.drawn+1})
theorem Gp (w:World)(c:Sys):w.drawn<=(w.sys c).2.drawn:=by
 have:=vX (Kernel.perform c w.os) w;unfold World.sys
 split
 ·exact Zb _
 ·next h=>rw[h] at this;exact this
theorem GX {p:Program}{a:Addr}{b:Bool}{l:List Addr}(h:w.farStore p a v b =.ok (w',l)):w'.drawn=w.drawn:=by
 unfold World.farStore at h
 split at h
 ·next at_ u _=>
  split at h
  ·next r hr=>
   cases h
   unfold World.viewStore at hr;simp only[bind,Except.bind,pure,Except.pure] at hr
   repeat' split at hr
   all_goals first|(cases hr;rfl)|cases hr
  ·cases h
 ·cases h
theorem xM (w:World)(a:Addr)(n:Nat):(w.freeze a n).drawn=w.drawn:=by unfold World.freeze;split <;> rfl
theorem uE {α:Type}(p:Program):∀ (s:Sem α) (w:World),Iq w.drawn (s.run p w):=by
 intro s
 induction s with
 |pure a=>intro w;exact Zb _
 |load m a k ih=>
  intro w;unfold Sem.run
  split
  ·exact ih _ w
  ·split
   ·exact ih _ w
   ·exact Zb _
 |store m a v k ih=>
  intro w
  cases v <;> (unfold Sem.run;first|exact Zb _|skip)
  all_goals
   split
   ·split
    ·exact Zb _
    ·exact ih (w.setCell a _)
   ·split
    ·next h=>rw[<-GX h];exact ih _
    ·exact Zb _
 |new o k ih=>intro w;unfold Sem.run;exact ih _ {w with heap:=w.heap.push o}
 |shape r k ih=>intro w;unfold Sem.run;exact ih _ w
 |freeze a n k ih=>intro w;unfold Sem.run;rw[<-xM w a n];exact ih _
 |frozen a k ih=>intro w;unfold Sem.run;exact ih _ w
 |getObj r k ih=>
  intro w;unfold Sem.run
  split
  ·exact Zb _
  ·exact ih _ w
  ·exact Zb _
 |setObj r o k ih=>
  intro w;unfold Sem.run
  split
  ·exact Zb _
  ·exact ih {w with heap:=w.heap.setIfInBounds r o}
  ·exact Zb _
 |choose q k ih=>
  intro w;unfold Sem.run
  split
  ·exact ih _ w
  ·exact Iq.mono (Nat.le_succ _) (ih _ {w with drawn:=w.drawn+1})
 |sys c k ih=>intro w;unfold Sem.run;exact Iq.mono (Gp w c) (ih _ _)
 |program k ih=>intro w;unfold Sem.run;exact ih _ w
 |mark m k ih=>intro w;unfold Sem.run;exact ih w
 |halt h=>intro w;exact Zb _
theorem cj {α:Type}{p:Program}{s:Sem α}{a:α}(h:s.run p w =.ok a w'):w.drawn<=w'.drawn:=by
 have:=uE p s w;rw[h] at this;exact this
theorem fK {α:Type}{p:Program}{s:Sem α}{a:Halt}(h:s.run p w =.halt a w'):w.drawn<=w'.drawn:=by
 have:=uE p s w;rw[h] at this;exact this
def gh (d:Nat):GStep->Prop
 | .go _ w _ | .comm _ _ _ _ w _ | .spawn _ _ w _ | .count _ w _ | .timer _ _ w _ | .alone _ _ w _ | .newcoro _ _ _ w _ | .coroswitch _ _ _ w _ | .collect _ w _ | .watch _ w _=>d<=w.drawn
 | .ended _ _ _=>True
theorem dw {d:Nat}{es:Array Event}:∀ {g:GStep},gh d g->gh d (g.after es):=by
 intro g h;cases g <;> exact h
theorem gh.mono {d:Nat}(h:d<=d'):∀ {g:GStep},gh d' g->gh d g:=by
 intro g k;cases g <;> first|exact Zc h k|exact trivial
theorem ua (w:World)(fd:Nat)(t:ByteArray)(o:Outcome)(d:Nat):gh d (endWith w fd t o):=by
 unfold endWith
 dsimp only
 repeat' split
 all_goals exact trivial
theorem Db (fr:Frame)(a:List ByteArray)(m:String)(b:Bool)(w:World):gh w.drawn (dieOf fr a m b w):=Zb _
theorem eP (fr:Frame)(m:String)(w:World):gh w.drawn (endThrow fr m w):=Zb _
theorem gC (p:Program)(fr:Frame)(v:Value)(w:World):gh w.drawn (endPrinting p fr v w):=by
 unfold endPrinting
 dsimp only
 split
 ·exact eP _ _ _
 ·exact trivial
theorem kU (p:Program)(fr:Frame)(cs:List Frame)(dy:Option Dying)(m:String)(w:World):gh w.drawn (endFatal p fr cs dy m w):=by
 unfold endFatal
 dsimp only
 split
 ·next h=>exact gh.mono (cj h) (Db ..)
 ·exact trivial
 ·exact trivial
theorem eO (p:Program)(main:Bool)(fr:Frame)(cs:List Frame)(dy:Option Dying)(v:Value)(w:World):gh w.drawn (doReturn p main fr cs dy v w):=by
 unfold doReturn
 repeat' split
 all_goals first|exact Zb _|exact trivial
theorem xk {α:Type}{d:Nat}{o:Option α}{b:GStep}{f:α->GStep}(h1:gh d b)(h2:∀a,gh d (f a)):gh d (o.elim b f):=by cases o;exact h1;exact h2 _
theorem pc {d:Nat}{c:Prop}{_:Decidable c}{a b:GStep}(h1:gh d a)(h2:gh d b):gh d (if c then a else b):=by split <;> assumption
theorem vg (p:Program)(fr:Frame)(d:Dying)(f:Fatal)(w:World):gh w.drawn (writeOn p fr d f w):=by
 unfold writeOn
 dsimp only
 split
 ·exact trivial
 ·simp only[Sem.runT_eq]
  split
  ·next h=>injection h with h _;exact cj h
  ·next h=>injection h with h _;exact fK h
  ·exact trivial
  ·exact trivial
theorem Gk (p:Program)(fr:Frame)(d:Dying)(w:World):gh w.drawn (die p fr d w):=by
 unfold die
 dsimp only
 split
 ·exact vg _ _ _ _ _
 ·split
  ·split
   ·exact Zb _
   ·exact ua _ _ _ _ _
  ·split
   ·exact Zb _
   ·split
    ·next h=>exact cj h
    ·exact trivial
   ·simp only[Sem.runT_eq];refine dw ?_
    repeat' split
    all_goals first|exact trivial|exact cj (by assumption)|exact gh.mono (fK (by assumption)) (gC ..)
   ·exact trivial
theorem lu (p:Program)(fr:Frame)(cs:List Frame)(dy:Option Dying)(d:Deferred)(w:World):gh w.drawn (callDeferred p fr cs dy d w):=by
 unfold callDeferred
 dsimp only
 refine pc trivial ?_
 ·simp only[Sem.runT_eq];refine dw ?_
  repeat' split
  all_goals first|exact trivial|exact cj (by assumption)|exact fK (by assumption)|exact gh.mono (fK (by assumption)) (kU ..)|exact gh.mono (fK (by assumption)) (eP ..)
theorem yG (p:Program)(main:Bool)(fr:Frame)(cs:List Frame)(dy:Option Dying)(w:World):gh w.drawn (unwind p main fr cs dy w):=by
 unfold unwind
 split
 ·simp only[Sem.runT_eq];refine dw ?_
  split
  ·next h=>exact cj h
  ·exact trivial
 ·exact lu _ _ _ _ _ _
 ·split
  ·exact trivial
  ·split
   ·exact trivial
   ·split
    ·exact Zb _
    ·split
     ·split
      ·exact Zb _
      ·split
       ·next h=>exact cj h
       ·exact trivial
       ·exact trivial
     ·split
      ·exact gC _ _ _ _
      ·exact trivial
  ·split
   ·exact eO _ _ _ _ _ _ _
   ·simp only[Sem.runT_eq];refine dw ?_
    split
    ·next h=>exact gh.mono (cj h) (eO ..)
    ·exact trivial
    ·exact trivial
theorem BU (p:Program)(fr:Frame)(cs:List Frame)(dy:Option Dying)(g:Nat)(w:World):gh w.drawn (early p fr cs dy g w):=by
 unfold early
 dsimp only
 repeat' split
 all_goals first|exact Zb _|exact trivial|(have h5:=cj ‹Sem.run p _ w=Result.ok _ _›;exact h5)
theorem jA (p:Program)(listen:Bool)(fr:Frame)(cs:List Frame)(dy:Option Dying)(s:Sem Next)(w:World):gh w.drawn (stepG.apply p listen fr cs dy s w):=by
 unfold stepG.apply
 dsimp only
 simp only[Sem.runT_eq];have e:(if listen=true then(Sem.run p s w,Sem.events p s w #[]) else(Sem.run p s w,#[])).1=Sem.run p s w:=by split <;> rfl
 rw[e];refine dw ?_;generalize hq:Sem.run p s w=r;have hr:=uE p s w;rw[hq] at hr
 repeat' split
 all_goals first|exact hr|exact trivial|exact gh.mono hr (kU ..)|exact gh.mono hr (eP ..)|exact gh.mono hr (BU ..)
theorem Ff (p:Program)(listen:Bool)(fr:Frame)(cs:List Frame)(dy:Option Dying)(w:World):gh w.drawn (stepG.oper p listen fr cs dy w):=by
 unfold stepG.oper
 split
 ·exact trivial
 ·split <;> exact jA _ _ _ _ _ _ _
theorem Ep (p:Program)(main listen:Bool)(fr:Frame)(cs:List Frame)(dy:Option Dying)(w:World):gh w.drawn (stepG.exec p main listen fr cs dy w):=by
 unfold stepG.exec
 dsimp only
 split
 all_goals first
  |exact Zb _
  |exact trivial
  |exact jA _ _ _ _ _ _ _
  |(split
    ·first|exact Zb _|exact trivial|(split <;> first|exact Zb _|exact trivial)
    ·first
     |exact Zb _
     |exact trivial
     |(simp only[Sem.runT_eq]
       refine dw ?_
       split
       ·exact gh.mono (cj ‹Sem.run p _ w=Result.ok _ _›) (eO ..)
       ·exact trivial))
  |skip
 iterate 2
  refine xk ?_ fun todo=>Zb w.drawn
  split
  ·exact pc (Zb w.drawn) trivial
  ·simp only[Sem.runT_eq];refine dw ?_
   split
   ·exact gh.mono (cj ‹Sem.run p _ w=Result.ok _ _›) (eO ..)
   ·exact trivial
 ·next k _ _=>
  simp only[Sem.runT_eq];refine dw ?_
  split
  ·exact gh.mono (cj ‹Sem.run p _ w=Result.ok _ _›) (jA ..)
  ·exact trivial
 ·simp only[Sem.runT_eq];refine dw ?_
  split
  ·exact cj ‹Sem.run p _ w=Result.ok _ _›
  ·exact fK ‹Sem.run p _ w=Result.halt _ _›
  ·exact trivial
 ·refine xk trivial fun e=>jA _ _ _ _ _ _ _
 ·refine pc (d:=w.drawn) (Zb w.drawn) ?_
  split
  ·exact cj ‹Sem.run p _ w=Result.ok _ _›
  ·exact trivial
 ·exact pc (Ff ..) (Zb w.drawn)
theorem CV (p:Program)(main:Bool)(g:Goroutine)(w:World)(listen:Bool):gh w.drawn (stepG p main g w listen):=by
 unfold stepG
 dsimp only
 split
 ·exact Gk _ _ _ _
 ·exact Ep _ _ _ _ _ _ _
 ·exact yG _ _ _ _ _ _
def vF (d:Nat):Stepped->Prop
 | .next m=>d<=m.world.drawn
 | .ended _ _=>True
theorem vF.mono {d:Nat}(h:d<=d'):∀ {g:Stepped},vF d' g->vF d g:=by
 intro g k;cases g
 ·exact Zc h k
 ·exact trivial
theorem xm (p:Program)(gs:Array Goroutine)(rest:Rest)(w:World):vF w.drawn (look p gs rest w):=by
 unfold look
 dsimp only
 repeat' split
 all_goals first|exact trivial|(have h5:=cj ‹Sem.run p _ w=Result.ok _ _›;exact h5)
theorem CI (p:Program)(m:Machine)(k:Nat):vF m.world.drawn (serve p m k):=by
 unfold serve
 dsimp only
 repeat' split
 all_goals first|exact trivial|exact Zb m.world.drawn
theorem As (w:World)(c:Nat):(drain w c).2.drawn=w.drawn:=by
 unfold drain
 split <;> rfl
theorem nR (m:Machine)(k:Nat)(t:Timer)(a b:Nat):(retime m k t a b).2.world.drawn=m.world.drawn:=by
 cases hc:t.chan with
 |none=>unfold retime;rw[hc]
 |some c=>unfold retime;rw[hc];exact As _ _
theorem qz {m m':Machine}{f:Nat->Timer->Value×Machine}{d:Nat}(hf:∀k t,(f k t).2.world.drawn=d)(h:timerOp.named m var f =.ok (v,m')):m'.world.drawn=d:=by
 unfold timerOp.named at h
 split at h
 ·injection h with h
  rw[<-hf _ _,h]
 ·cases h
theorem yk {m m':Machine}(h:timerOp.opened m var=some m'):m'.world.drawn=m.world.drawn:=by
 unfold timerOp.opened at h
 split at h
 ·split at h
  ·injection h with h;rw[<-h]
  ·cases h
 ·injection h with h;rw[h]
theorem ue {m m':Machine}{op:TimerOp}(h:timerOp m op =.ok (v,m')):m'.world.drawn=m.world.drawn:=by
 unfold timerOp at h
 split at h
 ·split at h
  ·injection h with h;injection h with _ h;rw[<-h];rfl
  ·split at h
   ·split at h
    ·cases h
    ·injection h with h;injection h with _ h;rw[<-h]
   ·cases h
 ·exact qz (fun k t=>nR ..) h
 ·split at h
  ·next h2=>exact(qz (fun k t=>nR ..) h).trans (yk h2)
  ·cases h
 ·injection h with h;injection h with _ h;rw[<-h];rfl
theorem ug {rest:Rest}{cases_:Array CommCase}(h:waitingAt rest cases_ w=some w'):w'.drawn=w.drawn:=by
 unfold waitingAt at h
 split at h
 ·split at h
  ·injection h with h;rw[<-h]
  ·cases h
 ·injection h with h;rw[h]
theorem DU (p:Program)(rest:Rest)(gs:Array Goroutine)(i:Nat)(g:Goroutine)(cs:Array CommCase)(b:Bool)(sh:CommShape)(w:World):vF w.drawn (communicate p rest gs i g cs b sh w).1:=by
 unfold communicate
 dsimp only
 split
 ·exact trivial
 ·split
  ·split
   ·split
    ·next h=>exact Nat.le_of_eq (ug h).symm
    ·exact trivial
   ·exact Zb w.drawn
  ·split
   ·exact trivial
   ·next h=>
    refine vF.mono (cj h) ?_
    repeat' split
    all_goals first|exact trivial|exact Zb _|(have h5:=cj ‹Sem.run p _ _=Result.ok _ _›;exact h5)|(have h5:=fK ‹Sem.run p _ _=Result.halt _ _›;exact h5)
theorem rf {fr:Frame}{m:String}{g:Goroutine}{es:Array Event}(h:endThrow fr m w =.go g w' es):w.drawn<=w'.drawn:=by
 have:=eP fr m w;rw[h] at this;exact this
theorem E4 (p:Program)(m:Machine)(i:Nat)(b:Bool):vF m.world.drawn (runT p m i b).1:=by
 unfold runT;generalize m.gs.swapAt! i {(default:Goroutine) with status:=.finished}=gg;obtain⟨g,gs⟩:=gg
 dsimp only
 have hs:=CV p (i==0) g m.world b;generalize stepG p (i==0) g m.world b=s at *
 cases s with
 |ended o w es=>exact trivial
 |comm g cs bl sh w es=>exact vF.mono hs (DU ..)
 |go g w es=>exact hs
 |spawn g c w es=>exact hs
 |count g w es=>dsimp only;split <;> first|exact trivial|exact hs
 |alone g on w es=>exact hs
 |collect g w es=>exact vF.mono hs (xm ..)
 |watch g w es=>exact hs
 |newcoro g c d w es=>exact hs
 |coroswitch g c ex w es=>
  dsimp only
  repeat' split
  all_goals first|exact hs|exact trivial|(have h5:=rf ‹endThrow _ _ _=GStep.go _ _ _›;exact Zc hs h5)
 |timer g op w es=>
  dsimp only
  split
  ·next h=>exact Zc hs (Nat.le_of_eq (ue h).symm)
  ·split
   ·next h=>exact Zc hs (rf h)
   ·exact trivial
  ·exact trivial
  ·exact trivial
def zc (d:Nat):Move->Prop
 | .goroutine m _=>d<=m.world.drawn
 | .machine s _=>vF d s
theorem zc.mono {d:Nat}(h:d<=d'):∀ {g:Move},zc d' g->zc d g:=by
 intro g k;cases g
 ·exact Zc h k
 ·exact vF.mono h k
theorem mt (p:Program)(m:Machine):zc m.world.drawn (askOn p m):=by
 have hp:∀ (m:Machine) (rs:List Nat),zc m.world.drawn (match (choose (.sched rs.length)).run p m.world with
   | .halt _ w=>.machine (.ended (.stuck "sched" "") w)
   | .ok k world=>
    if rs.length<=1 then .goroutine {m with world} (rs.getD k 0) else
    match (choose (.extern "sched.slice" 65536)).run p world with
    | .halt _ w=>.machine (.ended (.stuck "sched.slice" "") w)
    | .ok n world=>.goroutine {m with world,rest:={m.rest with slice:=if n=0 then none else some (rs.getD k 0,n)}} (rs.getD k 0)):=by
  intro m rs
  split
  ·exact trivial
  ·next h=>
   split
   ·exact cj h
   ·split
    ·exact trivial
    ·next h2=>exact Zc (cj h) (cj h2)
 unfold askOn
 dsimp only at hp ⊢
 split
 ·exact trivial
 ·next h=>
  have hu:=cj h
  split
  ·exact vF.mono hu (CI ..)
  ·split
   ·split
    ·exact hu
    ·split
     ·exact hu
     ·split <;> exact trivial
   ·split
    ·exact zc.mono hu (hp {m with world:=_} _)
    ·split
     ·exact trivial
     ·next h2=>exact zc.mono (Zc hu (cj h2)) (hp {m with world:=_} _)
     ·next h2=>have h5:=Zc hu (cj h2);exact h5
     ·next h2=>exact zc.mono (Zc hu (cj h2)) (hp (Machine.advanceTo {m with world:=_} _) _)
theorem xf (p:Program)(m:Machine):zc m.world.drawn (ask p m):=by
 unfold ask
 split
 ·split
  ·exact trivial
  ·next h=>
   have hu:=cj h;refine zc.mono hu ?_;have hl:=xm p m.gs m.rest (by assumption)
   split
   ·next h2=>
    rw[h2] at hl;exact zc.mono hl (mt p _)
   ·exact hl
  ·next h=>exact zc.mono (cj h) (mt p {m with world:=_})
 ·exact mt p m
theorem FC (p:Program)(m:Machine):zc m.world.drawn (move p m):=by
 unfold move
 split
 ·split
  ·exact Zb m.world.drawn
  ·exact trivial
 ·split
  ·split
   ·exact Zb m.world.drawn
   ·exact xf p _
  ·exact xf p _
theorem DW (p:Program)(m:Machine):vF m.world.drawn (step p m):=by
 unfold step stepT;have:=FC p m;generalize move p m=v at *
 cases v with
 |goroutine m' i=>exact vF.mono this (E4 p m' i true)
 |machine s ops=>exact this
theorem xn (p:Program):∀ (n:Nat) (m m':Machine),runN p n m =.next m'->m.world.drawn<=m'.world.drawn
 |0,m,m',h=>by injection h with h;rw[h];exact Zb _
 |n+1,m,m',h=>by
  unfold runN at h;have hs:=DW p m;generalize step p m=s at *
  cases s with
  |next m1=>exact Zc hs (xn p n m1 m' h)
  |ended o w=>cases h
theorem sP {p:Program}{m m':Machine}(h:Steps p m m'):m.world.drawn<=m'.world.drawn:=by
 obtain⟨n,h⟩:=h;exact xn p n m m' h
theorem _root_.Go.Calls.drawn {P:Program}{f:FuncId}{R:Ending->World->Prop}(h:Calls P f args w R)(hr:∀e w',R e w'->e≠ .outgrown):Calls P f args w fun e w'=>R e w'/\w.drawn<=w'.drawn:=by
 intro cs;obtain⟨e,w',fr,r,hc,h2,h3⟩:=h cs;refine⟨e,w',fr,⟨r,?_⟩,hc,h2,h3⟩
 cases e with
 |returned v=>exact sP hc
 |panicked c=>exact sP hc
 |outgrown=>exact absurd rfl (hr _ _ r)
open Go.RowKit Go.Shelf Go.Lib Go.Sort
abbrev Ga:={e:En // FO e}
theorem gp.nil:gp ⟨#[]⟩:=⟨ig,by decide⟩
instance:Inhabited Ga:=⟨⟨⟨⟨#[]⟩,⟨#[]⟩,⟨#[]⟩⟩,.nil,.nil⟩⟩
def fe (p:Ga):List Value:=dW p.1
def Jq (x y:Ga):Int:=xw x.1 y.1
theorem Jk (x y:Ga):ltOf Jq x y=decide (xw x.1 y.1<0):=rfl
theorem JK:SWO (ltOf Jq) where
 irrefl x:=by rw[Jk,cM.refl];rfl
 trans x y z h1 h2:=by
  rw[Jk] at *;simp only[decide_eq_true_eq] at *;exact cM.lt h1 (by omega)
 ntrans x y z h1 h2:=by
  rw[Jk] at *;simp only[decide_eq_false_iff_not] at *;have a:=cM.ctn x.1 y.1;have b:=cM.ctn y.1 z.1;have c:=cM.ctn x.1 z.1;have a':=cM.ctn y.1 x.1;have b':=cM.ctn z.1 y.1;have d:=cM.cle z.1 y.1 x.1 (by omega) (by omega);omega
theorem kL (w:World)(base g n:Nat)(d':Array Ga)(os:Array Obj)(hB:base<=g)(hg:g<w.heap.size):Below base w (sortWorldK fe 3 w g 0 n d' os):=by
 have hh:∀k,k<base->(sortWorldK fe 3 w g 0 n d' os).heap[k]?=w.heap[k]?:=by
  intro k hk;unfold sortWorldK;rw[heap_grow_old _ os (by unfold putRowK putRow mapBlock Sort.ahead;simp;omega)];unfold putRowK putRow mapBlock Sort.ahead;simp only;rw[Array.getElem?_modify,if_neg (by omega)]
 refine⟨rfl,rfl,rfl,?_,hh⟩;unfold sortWorldK grow putRowK putRow mapBlock Sort.ahead;simp
theorem Al (hL:fP w0)(hb:Below w0.heap.size w0 w)(x y:Ga):Calls Tryz.prog 46 #[.agg #[.string x.1.eAt,.string x.1.eSch,.string x.1.eKw],.agg #[.string y.1.eAt,.string y.1.eSch,.string y.1.eKw]] w fun e w'=>e =.returned (.int .i64 (Jq x y))/\∃q os',w'=grow (w.drewN q) os':=
 ((yl (hL.below hb) x.2 y.2).drawn fun e w' h k=>by rw[h.1] at k;cases k).mono fun _ _ ⟨h1,h2⟩=>⟨h1.1,bB.grow ⟨h1.2,h2⟩⟩
def iU:Go.Shelf.Ren:=⟨fun|6=>45|15=>74|14=>73|28=>109|29=>110|20=>101|21=>102|22=>103|23=>104|24=>105|25=>106|26=>107|27=>108|46=>128|47=>129|48=>130|49=>131|50=>132|57=>162|n=>n,fun|22=>22|24=>45|25=>91|3=>3|39=>147|0=>0|53=>195|55=>197|4=>4|46=>189|45=>188|50=>162|5=>5|9=>9|66=>221|70=>225|76=>275|77=>276|n=>n,fun|n=>n⟩
theorem oS:Go.Proofs.SlLaysF0.n6 Tryz.prog iU:={
 mixed:=by kernel_rfl
 f6:=⟨"slices.SortFunc[[]wicket/api.Entry,wicket/api.Entry]",by decide,Tryz.func45.trans (congrArg some (by kernel_rfl))⟩
 f14:=⟨"slices.pdqsortCmpFunc[wicket/api.Entry]",by decide,Tryz.func73.trans (congrArg some (by kernel_rfl))⟩
 f15:=Tryz.func74.trans (congrArg some (by kernel_rfl))
 f20:=⟨"slices.insertionSortCmpFunc[wicket/api.Entry]",by decide,Tryz.func101.trans (congrArg some (by kernel_rfl))⟩
 f21:=⟨"slices.heapSortCmpFunc[wicket/api.Entry]",by decide,Tryz.func102.trans (congrArg some (by kernel_rfl))⟩
 f22:=⟨"slices.breakPatternsCmpFunc[wicket/api.Entry]",by decide,Tryz.func103.trans (congrArg some (by kernel_rfl))⟩
 f23:=⟨"slices.choosePivotCmpFunc[wicket/api.Entry]",by decide,Tryz.func104.trans (congrArg some (by kernel_rfl))⟩
 f24:=⟨"slices.reverseRangeCmpFunc[wicket/api.Entry]",by decide,Tryz.func105.trans (congrArg some (by kernel_rfl))⟩
 f25:=⟨"slices.partialInsertionSortCmpFunc[wicket/api.Entry]",by decide,Tryz.func106.trans (congrArg some (by kernel_rfl))⟩
 f26:=⟨"slices.partitionEqualCmpFunc[wicket/api.Entry]",by decide,Tryz.func107.trans (congrArg some (by kernel_rfl))⟩
 f27:=⟨"slices.partitionCmpFunc[wicket/api.Entry]",by decide,Tryz.func108.trans (congrArg some (by kernel_rfl))⟩
 f28:=Tryz.func109.trans (congrArg some (by kernel_rfl))
 f29:=Tryz.func110.trans (congrArg some (by kernel_rfl))
 f46:=⟨"slices.siftDownCmpFunc[wicket/api.Entry]",by decide,Tryz.func128.trans (congrArg some (by kernel_rfl))⟩
 f47:=Tryz.func129.trans (congrArg some (by kernel_rfl))
 f48:=Tryz.func130.trans (congrArg some (by kernel_rfl))
 f49:=⟨"slices.medianAdjacentCmpFunc[wicket/api.Entry]",by decide,Tryz.func131.trans (congrArg some (by kernel_rfl))⟩
 f50:=⟨"slices.medianCmpFunc[wicket/api.Entry]",by decide,Tryz.func132.trans (congrArg some (by kernel_rfl))⟩
 f57:=⟨"slices.order2CmpFunc[wicket/api.Entry]",by decide,Tryz.func162.trans (congrArg some (by kernel_rfl))⟩
 t0:=Tryz.underlying0
 a0:=Tryz.isAgg0
 z0:=Tryz.sizeOf0
 v0:=Tryz.zeroValue0
 t3:=Tryz.underlying3
 a3:=Tryz.isAgg3
 z3:=Tryz.sizeOf3
 v3:=Tryz.zeroValue3
 t4:=Tryz.underlying4
 a4:=Tryz.isAgg4
 z4:=Tryz.sizeOf4
 v4:=Tryz.zeroValue4
 t5:=Tryz.underlying5
 a5:=Tryz.isAgg5
 z5:=Tryz.sizeOf5
 v5:=Tryz.zeroValue5
 t9:=Tryz.underlying9
 a9:=Tryz.isAgg9
 z9:=Tryz.sizeOf9
 v9:=Tryz.zeroValue9
 t22:=Tryz.underlying22
 a22:=Tryz.isAgg22
 z22:=Tryz.sizeOf22
 v22:=Tryz.zeroValue22
 t25:=Tryz.underlying91
 a25:=Tryz.isAgg91
 z25:=Tryz.sizeOf91
 v25:=Tryz.zeroValue91
 t39:=Tryz.underlying147
 a39:=Tryz.isAgg147
 z39:=Tryz.sizeOf147
 v39:=Tryz.zeroValue147
 t45:=Tryz.underlying188
 a45:=Tryz.isAgg188
 z45:=Tryz.sizeOf188
 v45:=Tryz.zeroValue188
 t46:=Tryz.underlying189
 a46:=Tryz.isAgg189
 z46:=Tryz.sizeOf189
 v46:=Tryz.zeroValue189
 t50:=Tryz.underlying162
 a50:=Tryz.isAgg162
 z50:=Tryz.sizeOf162
 v50:=Tryz.zeroValue162
 t53:=Tryz.underlying195
 a53:=Tryz.isAgg195
 z53:=Tryz.sizeOf195
 v53:=Tryz.zeroValue195
 t55:=Tryz.underlying197
 a55:=Tryz.isAgg197
 z55:=Tryz.sizeOf197
 v55:=Tryz.zeroValue197
 t66:=Tryz.underlying221
 a66:=Tryz.isAgg221
 z66:=Tryz.sizeOf221
 v66:=Tryz.zeroValue221
 t70:=Tryz.underlying225
 a70:=Tryz.isAgg225
 z70:=Tryz.sizeOf225
 v70:=Tryz.zeroValue225
 t76:=Tryz.underlying275
 a76:=Tryz.isAgg275
 z76:=Tryz.sizeOf275
 v76:=Tryz.zeroValue275
 t77:=Tryz.underlying276
 a77:=Tryz.isAgg276
 z77:=Tryz.sizeOf276
 v77:=Tryz.zeroValue276
}
open Classical in
noncomputable def Iv (e:En):Ga:=if h:FO e then⟨e,h⟩ else default
theorem Ef {e:En}(h:FO e):(Iv e).1=e:=by unfold Iv;rw[dif_pos h]
theorem EQ {L:List En}(hb:∀e∈L,FO e){p:En}(hp:L[i]?=some p):(((L.map Iv).toArray)[i]!).1=p:=by
 have hi:=(List.getElem?_eq_some_iff.1 hp).1;have h0:=hb p (Zk hp);have e:((L.map Iv).toArray)[i]! =Iv p:=by
  rw[getElem!_pos _ i (by simpa using hi)];simp only[List.getElem_toArray,List.getElem_map]
  congr 1
  have:=Zd hi;rw[hp] at this;exact(Zi this).symm
 rw[e];exact Ef h0
def J7 (w:World)(g:Nat)(L:List En):Prop:= ∀ (i:Nat) p,L[i]?=some p->w.cell? ⟨g,i*3,none⟩=some (.string p.eAt)/\w.cell? ⟨g,i*3+1,none⟩=some (.string p.eSch)/\w.cell? ⟨g,i*3+2,none⟩=some (.string p.eKw)
def Kj (w:World)(base g:Nat)(L:List En)(e:Ending)(w':World):Prop:= ∃S:List En,S.Pairwise (fun a b=> ¬xw b a<0)/\S.Perm L/\e =.returned (.tuple #[])/\J7 w' g S/\(∃cur:Array Value,w'.heap[g]?=some (.cells cur 45 (0,0))/\∃cur0:Array Value,w.heap[g]?=some (.cells cur0 45 (0,0))/\cur.size=cur0.size)/\Below base w w'
theorem IV (j:Nat):j % 3=0\/j % 3=1\/j % 3=2:=by omega
theorem CN {l:List En}{j:Nat}{p:En}(h:l[j/3]?=some p):(bJ l)[j]?=some ((dW p)[j % 3]!):=by
 obtain⟨f1,f2,f3⟩:=it l _ _ h;rcases IV j with hm|hm|hm <;> rw[hm]
 ·rw[show(bJ l)[j]?= (bJ l)[j/3*3]? from congrArg (fun k=>(bJ l)[k]?) (by omega),f1];rfl
 ·rw[show(bJ l)[j]?= (bJ l)[j/3*3+1]? from congrArg (fun k=>(bJ l)[k]?) (by omega),f2];rfl
 ·rw[show(bJ l)[j]?= (bJ l)[j/3*3+2]? from congrArg (fun k=>(bJ l)[k]?) (by omega),f3];rfl
theorem ta {L:List En}(h:bG w w0.heap.size (.slice (some ⟨g,0,none⟩) L.length q) L)(hb:∀e∈L,FO e)(hL:fP w0)(hw:Below w0.heap.size w0 w)(hl:L.length<=1000000):Calls Tryz.prog 45 #[.slice (some ⟨g,0,none⟩) L.length q,.func (.func 46) #[] #[]] w (Kj w w0.heap.size g L):=by
 obtain⟨d,hd⟩:∃d:Array Ga,(L.map Iv).toArray=d:=⟨_,rfl⟩;have a1:d.size=L.length:=by rw[<-hd];simp
 have b0:∀ (i:Nat) p,L[i]?=some p->(d[i]!).1=p:=fun i p hp=>by rw[<-hd];exact EQ hb hp
 obtain⟨a4,cur,a0⟩:=ao h rfl;have a4:w0.heap.size<=g:=a4;have hlt:=ak a0;have hH:HoldsK fe 3 w g 0 d:=by
  intro j hj;rw[size_flatK,a1] at hj;obtain⟨p,hp⟩:∃p,L[j/3]?=some p:=⟨_,Zd (by omega)⟩;have hz:L.length*3= (bJ L).length:=(fE L).symm;have c:=aH h rfl j (by omega);refine⟨?_,al a0 _⟩;rw[get_flatK fe 3 d j (by rw[a1];exact hj)];have hv:=b0 _ _ hp;rw[Nat.zero_add,c,CN hp];unfold fe;rw[hv];rfl
 have eg:∀args w,(callFunc 46 args).run Tryz.prog w =.ok (.enter 46 args) w:=enters_of Tryz.func46 (by kernel_rfl) rfl;have a3:=AnyQ.slices_SortFunc oS 3 Tryz.isAgg45 Tryz.sizeOf45 fe (fun _=>rfl) (fun x v hv=>by simp[fe,dW] at hv;rcases hv with rfl|rfl|rfl <;> rfl) Jq JK 46 #[] g 0 q d w eg (fun m os dk b2 x y=>Al hL (hw.trans (kL w _ g m dk os a4 hlt)) x y) hH hlt (by rw[a1];omega);change Calls Tryz.prog 45 _ _ _ at a3;rw[a1] at a3;refine a3.mono ?_;rintro e w' ⟨rfl,d',n,os,hp,hs,rfl⟩;have a5:d'.size=L.length:=by rw[hp.1,a1]
 have a9:(putRowK fe 3 (Sort.ahead w n) g 0 d').heap.size=w.heap.size:=by unfold putRowK putRow mapBlock Sort.ahead;simp
 refine⟨d'.toList.map (·.1),?_,?_,rfl,?_,?_,kL w _ g n d' os a4 hlt⟩
 ·rw[List.pairwise_map,List.pairwise_iff_getElem];intro i j hi hj b1;have h1:=hs i j (Zj _) b1 (by simpa [a5] using hj);rw[Jk] at h1;rw[getElem!_pos d' i (by simpa using hi),getElem!_pos d' j (by simpa using hj)] at h1;simp only[Array.getElem_toList];simpa only[decide_eq_false_iff_not] using h1
 ·have h1:=hp.2.2;rw[<-a1] at h1;have e1:d.extract 0 d.size=d:=by simp
  have e2:d'.extract 0 d.size=d':=by rw[<-hp.1];simp
  rw[e1,e2] at h1;have h2:=h1.map (·.1);have e3:d.toList.map (·.1)=L:=by
   apply List.ext_getElem?
   intro i;rw[List.getElem?_map]
   by_cases hi:i<L.length
   ·obtain⟨p,a2⟩:∃p,L[i]?=some p:=⟨_,Zd hi⟩;have hv:=b0 i p a2;rw[getElem!_pos d i (by omega)] at hv;rw[a2,Zd (by simpa [a1] using hi)];simp only[Array.getElem_toList,Option.map_some,hv]
   ·rw[List.getElem?_eq_none (by simpa [a1] using hi),List.getElem?_eq_none (by omega)];rfl
  rw[e3] at h2;exact h2
 ·have hK:=holdsK_grow fe 3 (putRowK fe 3 (Sort.ahead w n) g 0 d') os g 0 d' (by rw[a9];exact hlt) (holdsK_putRowK fe 3 (Sort.ahead w n) g 0 d d' (holdsK_ahead fe 3 w n g 0 d hH) hp.1);intro i p a2;rw[List.getElem?_map] at a2;have hi:i<d'.size:=by
   have:=(List.getElem?_eq_some_iff.1 (show(d'.toList.map (·.1))[i]?=some p by rw[List.getElem?_map];exact a2)).1;simpa using this
  have hv:(d'[i]!).1=p:=by
   rw[Zd (by simpa using hi)] at a2;rw[getElem!_pos d' i hi];simpa using a2
  have k1:=(hK.cell hi (show 0<3 by decide)).1;have k2:=(hK.cell hi (show 1<3 by decide)).1;have k3:=(hK.cell hi (show 2<3 by decide)).1;have e1:((fe d'[i]!)[0]! :Value) =.string p.eAt:=by unfold fe;rw[hv];rfl
  have e2:((fe d'[i]!)[1]! :Value) =.string p.eSch:=by unfold fe;rw[hv];rfl
  have e3:((fe d'[i]!)[2]! :Value) =.string p.eKw:=by unfold fe;rw[hv];rfl
  rw[e1,show 0+i*3+0=i*3 by omega] at k1;rw[e2,show 0+i*3+1=i*3+1 by omega] at k2;rw[e3,show 0+i*3+2=i*3+2 by omega] at k3;exact⟨k1,k2,k3⟩
 ·have hg:∃f:Array Value->Array Value,(∀c,(f c).size=c.size)/\(putRowK fe 3 (Sort.ahead w n) g 0 d').heap[g]?=some (.cells (f cur) 45 (0,0)):=by
   refine⟨fun c=>putCells id 0 (flatK fe 3 d') c,fun c=>by unfold putCells;simp,?_⟩;unfold putRowK putRow mapBlock Sort.ahead;simp only;have h':w.heap[g] =.cells cur 45 (0,0):=by simpa [Array.getElem?_eq_getElem hlt] using a0
   rw[Array.getElem?_eq_getElem (by simpa using hlt),Array.getElem_modify_self,h'];rfl
  obtain⟨f,hf,hg⟩:=hg;refine⟨f cur,?_,cur,a0,hf cur⟩;unfold sortWorldK;rw[heap_grow_old _ os (by rw[a9];exact hlt)];exact hg
structure Fr.ok (N:ByteArray->Prop) (f:Fr):Prop where
 list:f.obj=false->f.mems = []/\f.name=none
 obj:f.obj=true->f.items = []
 names:∀m∈f.mems,N m.1
 nodup:(f.mems.map Prod.fst).Nodup
 name:∀s,f.name=some s->N s/\s∉f.mems.map Prod.fst
def bS (f:Fr):Bool:=f.obj&&f.name.isNone
def ur:Nat->List Fr->Option JV->Prop
 |0,frs,d=>d=none/\∀f fs,frs=f::fs->bS f=false
 |1,frs,d=>d=none/\∃f fs,frs=f::fs/\f.obj=false
 |2,frs,d=>d=none/\∃f fs,frs=f::fs/\f.obj=true/\f.name=none
 |3,frs,d=>d=none/\∃f fs,frs=f::fs/\f.obj=true/\f.name=none
 |4,frs,d=>d=none/\∃f fs,frs=f::fs/\f.obj=true/\f.name.isSome=true
 |5,frs,d=>d=none/\∃f fs,frs=f::fs/\f.obj=false
 |6,frs,d=>d=none/\∃f fs,frs=f::fs/\f.obj=true/\f.name=none
 |7,frs,d=>frs = []/\d.isSome=true
 |_,_,_=>False
structure bR.ok (N:ByteArray->Prop) (c:bR):Prop where
 frs:∀f∈c.frs,f.ok N
 rest:∀f∈c.frs.tail,bS f=false
 want:ur c.want c.frs c.done
theorem bR.ok.start (N:ByteArray->Prop):bR.ok N ⟨[],0,none⟩:=⟨by simp,by simp,rfl,by simp⟩
theorem eK (h:f.obj=true):bD (f::fs) j= ⟨{f with mems:=f.mems ++ [(f.name.getD ⟨#[]⟩,j)],name:=none}::fs,6,none⟩:=if_pos h
theorem dI (h:f.obj=false):bD (f::fs) j= ⟨{f with items:=f.items ++ [j]}::fs,5,none⟩:=if_neg (by rw[h];decide)
theorem lP {N:ByteArray->Prop}(h:∀f∈frs,f.ok N)(hr:∀f∈frs,bS f=false):(bD frs j).ok N:=by
 cases frs with
 |nil=>exact⟨by simp[bD],by simp[bD],rfl,rfl⟩
 |cons f fs=>
  have hf:=h f (by simp);have hw:=hr f (by simp)
  by_cases ho:f.obj=true
  ·rw[eK ho];have hn:∃s,f.name=some s:=by
    simp only[bS,ho,Bool.true_and] at hw
    cases he:f.name with
    |none=>rw[he] at hw;cases hw
    |some s=>exact⟨s,rfl⟩
   obtain⟨s,hs⟩:=hn;obtain⟨n1,n2⟩:=hf.name s hs;refine⟨fun g hg=>?_,fun g hg=>hr g (Zl _ hg),rfl,_,_,rfl,ho,rfl⟩;rcases List.mem_cons.1 hg with rfl|hg
   ·refine⟨fun e=>?_,fun _=>hf.obj ho,fun m hm=>?_,?_,fun s hs=>by cases hs⟩
    ·simp only at e;rw[ho] at e;cases e
    ·rcases List.mem_append.1 hm with hm|hm
     ·exact hf.names m hm
     ·obtain rfl:=List.mem_singleton.1 hm;simp only[hs,Option.getD_some];exact n1
    ·simp only[hs,Option.getD_some,List.map_append,List.map_cons,List.map_nil];rw[List.nodup_append];refine⟨hf.nodup,by simp,fun a ha b hb=>?_⟩;obtain rfl:=List.mem_singleton.1 hb;exact fun e=>n2 (e▸ha)
   ·exact h g (Zl _ hg)
  ·have a0:f.obj=false:=by simpa using ho
   rw[dI a0];refine⟨fun g hg=>?_,fun g hg=>hr g (Zl _ hg),rfl,_,_,rfl,a0⟩;rcases List.mem_cons.1 hg with rfl|hg
   ·exact⟨fun _=>hf.list a0,fun e=>(by simp only at e;rw[a0] at e;cases e),hf.names,hf.nodup,hf.name⟩
   ·exact h g (Zl _ hg)
def FY (N:ByteArray->Prop):lx->Prop
 | .str s=>N s
 |_=>True
theorem cL {w:Nat}{d:Option JV}(h:ur w frs d)(hw:w=0\/w=1):d=none/\∀f fs,frs=f::fs->bS f=false:=by
 rcases hw with rfl|rfl
 ·exact h
 ·obtain⟨h1,f,fs,rfl,h2⟩:=h;refine⟨h1,fun g gs e=>?_⟩;injection e with e _
  subst e;simp[bS,h2]
theorem l6 (h1:∀f fs,frs=f::fs->bS f=false)(h2:∀f∈frs.tail,bS f=false):∀f∈frs,bS f=false:=by
 cases frs with
 |nil=>simp
 |cons g gs=>
  intro f hf;rcases List.mem_cons.1 hf with rfl|hf
  ·exact h1 _ _ rfl
  ·exact h2 f hf
theorem Fr.ok.new (N:ByteArray->Prop)(o:Bool):Fr.ok N ⟨o, [], [],none⟩:=⟨fun _=>⟨rfl,rfl⟩,fun _=>rfl,by simp,by simp,fun s h=>by cases h⟩
theorem uk {x:UInt8}(h:px want x=true):(x=91\/x=123)/\(want=0\/want=1)\/x=93/\(want=1\/want=5)\/x=125/\(want=3\/want=6)\/x=58/\want=4\/x=44/\(want=5\/want=6):=by
 unfold px at h
 split at h
 all_goals simp only[List.contains_eq_mem,List.mem_cons,List.not_mem_nil,or_false,decide_eq_true_eq] at h
 ·rcases h with rfl|rfl <;> simp
 ·rcases h with rfl|rfl|rfl <;> simp
 ·subst h;simp
 ·subst h;simp
 ·rcases h with rfl|rfl <;> simp
 ·rcases h with rfl|rfl <;> simp
theorem pA {N:ByteArray->Prop}{c c':bR}{t:lx}(h:c.ok N)(ht:FY N t)(hs:bH c t=some c'):c'.ok N:=by
 obtain⟨frs,want,done⟩:=c;obtain⟨h1,h2,h3⟩:=h;simp only at h1 h2 h3
 cases t with
 |leaf j=>
  simp only[bH] at hs
  split at hs
  ·rename_i hw
   obtain rfl:=Zi hs;exact lP h1 (l6 (cL h3 hw).2 h2)
  ·cases hs
 |str s=>
  simp only[bH] at hs
  split at hs
  ·rename_i hw
   have h4:done=none/\∃f fs,frs=f::fs/\f.obj=true/\f.name=none:=by
    try simp only at hw
    rcases hw with rfl|rfl <;> exact h3
   obtain⟨rfl,f,fs,rfl,h5,h6⟩:=h4
   try simp only at hs
   split at hs
   ·cases hs
   ·rename_i hn
    obtain rfl:=Zi hs;have hf:=h1 f (by simp);refine⟨fun g hg=>?_,h2,rfl,_,_,rfl,h5,rfl⟩;rcases List.mem_cons.1 hg with rfl|hg
    ·refine⟨fun e=>?_,hf.obj,hf.names,hf.nodup,fun s' e=>?_⟩
     ·simp only at e;rw[h5] at e;cases e
     ·obtain rfl:=Zi e;refine⟨ht,fun hm=>hn ?_⟩;obtain⟨m,hm,rfl⟩:=List.mem_map.1 hm;exact List.any_eq_true.2 ⟨m,hm,by simp⟩
    ·exact h1 g (Zl _ hg)
  ·split at hs
   ·rename_i hw
    obtain rfl:=Zi hs;exact lP h1 (l6 (cL h3 hw).2 h2)
   ·cases hs
 |mark x=>
  simp only[bH] at hs
  split at hs
  case isFalse=>cases hs
  rename_i hm
  try simp only at hm hs
  rcases uk hm with ⟨hx,hw⟩|⟨hx,hw⟩|⟨hx,hw⟩|⟨hx,hw⟩|⟨hx,hw⟩
  ·obtain⟨hd,hq⟩:=cL h3 hw;subst hd;have a0:=l6 hq h2;rcases hx with rfl|rfl
   ·rw[if_pos rfl] at hs;obtain rfl:=Zi hs;refine⟨fun g hg=>?_,a0,rfl,_,_,rfl,rfl⟩;rcases List.mem_cons.1 hg with rfl|hg
    ·exact Fr.ok.new N false
    ·exact h1 g hg
   ·rw[if_neg (by decide),if_pos rfl] at hs;obtain rfl:=Zi hs;refine⟨fun g hg=>?_,a0,rfl,_,_,rfl,rfl,rfl⟩;rcases List.mem_cons.1 hg with rfl|hg
    ·exact Fr.ok.new N true
    ·exact h1 g hg
  ·subst hx;rw[if_neg (by decide),if_neg (by decide)] at hs
   cases frs with
   |nil=>cases hs
   |cons f fs=>
    simp only[true_or,if_true] at hs;obtain rfl:=Zi hs;exact lP (fun g hg=>h1 g (Zl _ hg)) h2
  ·subst hx;rw[if_neg (by decide),if_neg (by decide)] at hs
   cases frs with
   |nil=>cases hs
   |cons f fs=>
    simp only[or_true,if_true] at hs;obtain rfl:=Zi hs;exact lP (fun g hg=>h1 g (Zl _ hg)) h2
  ·obtain⟨rfl,rfl⟩:=And.intro hx hw;rw[if_neg (by decide),if_neg (by decide)] at hs;obtain⟨rfl,f,fs,rfl,h5,h6⟩:=h3
   try simp only at hs
   rw[if_neg (by decide),if_neg (by decide)] at hs;obtain rfl:=Zi hs;refine⟨h1,h2,rfl,fun g gs e=>?_⟩;injection e with e _
   subst e;simp[bS,h5];exact h6
  ·subst hx;rw[if_neg (by decide),if_neg (by decide)] at hs
   cases frs with
   |nil=>cases hs
   |cons f fs=>
    try simp only at hs
    rw[if_neg (by decide)] at hs;simp only[if_true] at hs;obtain rfl:=Zi hs;rcases hw with rfl|rfl
    ·obtain⟨rfl,g,gs,e,h5⟩:=h3;injection e with e1 e2
     subst e1 e2;refine⟨h1,h2,?_⟩;simp only[h5];refine⟨rfl,fun g gs e=>?_⟩;injection e with e _
     subst e;simp[bS,h5]
    ·obtain⟨rfl,g,gs,e,h5,h6⟩:=h3;injection e with e1 e2
     subst e1 e2;refine⟨h1,h2,?_⟩;simp only[h5];exact⟨rfl,_,_,rfl,h5,h6⟩
def Fr.cnt (f:Fr):Nat:=f.items.length+f.mems.length
def cQ (frs:List Fr):Nat:=(frs.map fun f=>f.cnt+1).sum
theorem mI (frs:List Fr)(j:JV):cQ (bD frs j).frs<=cQ frs+1:=by
 cases frs with
 |nil=>simp[bD,cQ]
 |cons f fs=>
  by_cases ho:f.obj=true
  ·rw[eK ho];simp[cQ,Fr.cnt];omega
  ·rw[dI (by simpa using ho)];simp[cQ,Fr.cnt];omega
theorem mb {c c':bR}{t:lx}(hs:bH c t=some c'):cQ c'.frs<=cQ c.frs+1:=by
 obtain⟨frs,want,done⟩:=c
 cases t with
 |leaf j=>
  simp only[bH] at hs
  split at hs
  ·obtain rfl:=Zi hs;exact mI _ _
  ·cases hs
 |str s=>
  simp only[bH] at hs
  split at hs
  ·cases frs with
   |nil=>cases hs
   |cons f fs=>
    try simp only at hs
    split at hs
    ·cases hs
    ·obtain rfl:=Zi hs;simp[cQ,Fr.cnt]
  ·split at hs
   ·obtain rfl:=Zi hs;exact mI _ _
   ·cases hs
 |mark x=>
  simp only[bH] at hs
  split at hs
  case isFalse=>cases hs
  by_cases e1:x=91
  ·rw[if_pos e1] at hs;obtain rfl:=Zi hs;simp[cQ,Fr.cnt];omega
  rw[if_neg e1] at hs
  by_cases e2:x=123
  ·rw[if_pos e2] at hs;obtain rfl:=Zi hs;simp[cQ,Fr.cnt];omega
  rw[if_neg e2] at hs
  cases frs with
  |nil=>cases hs
  |cons f fs=>
   try simp only at hs
   split at hs
   ·obtain rfl:=Zi hs;have:=mI fs (cK f);have e:cQ (f::fs)=f.cnt+1+cQ fs:=by simp[cQ]
    rw[e];omega
   ·split at hs <;> (obtain rfl:=Zi hs;simp)
theorem jK (frs:List Fr):frs.length<=cQ frs:=by
 induction frs with
 |nil=>simp[cQ]
 |cons f fs ih=>simp[cQ] at ih ⊢;omega
theorem iA (f:Fr)(fs:List Fr):f.items.length+f.mems.length+1+fs.length<=cQ (f::fs):=by
 have:=jK fs;simp[cQ,Fr.cnt] at this ⊢;omega
