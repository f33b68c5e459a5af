import Derived.Test.YtpkdfmjdhmpopaaGreatDoorGZ3av
set_option linter.unusedVariables false
set_option linter.unusedSimpArgs false
set_option maxRecDepth 100000
namespace Go.Proofs.YtpkdfmjdhmpopaaGreatDoor
def Ir:List UInt8:= [123,32,34,98,34,32,58,32,91,49,46,53,48,44,32,49,101,50,93,44,32,34,97,92,117,48,48,54,50,34,32,58,32,110,117,108,108,32,125]
def F7:JV:= .mk 6 false ⟨#[]⟩ ⟨false,⟨#[]⟩,0⟩ [⟨#[97,98]⟩,⟨#[98]⟩] [iM,dl [cY ⟨false,⟨#[49,53]⟩, -1⟩,cY ⟨false,⟨#[49]⟩,2⟩]]
theorem AR:dF Ir=some F7:=by rfl
theorem Cd:F7.txt = [123,34,97,98,34,58,110,117,108,108,44,34,98,34,58,91,49,53,101,45,49,44,49,101,50,93,125]:=by
 have e1:fQ (-1) = [101,45,49]:=by
  unfold fQ;rw [if_neg (by decide),show(-1:Int) = -((1:Nat):Int) from rfl,Lib.itoa_neg 1 (by decide),Lib.decDigits_one (by decide)];rfl
 have e2:fQ 2 = [101,50]:=by
  unfold fQ;rw [if_neg (by decide),show(2:Int)= ((2:Nat):Int) from rfl,Lib.itoa_nonneg 2,Lib.decDigits_one (by decide)];rfl
 simp only [F7,JV.txt,JV.txts,iM,dl,cY,eR,e1,e2];rfl
theorem yQ:dF [49]=some (cY ⟨false,⟨#[49]⟩,0⟩):=by rfl
theorem uZ:dF [49,46,48]=some (cY ⟨false,⟨#[49]⟩,0⟩):=by rfl
theorem yY:dF [91,49,44,50,93]=some (dl [cY ⟨false,⟨#[49]⟩,0⟩,cY ⟨false,⟨#[50]⟩,0⟩]):=by rfl
theorem yw:dF [91,49,44,32,50,93]=some (dl [cY ⟨false,⟨#[49]⟩,0⟩,cY ⟨false,⟨#[50]⟩,0⟩]):=by rfl
theorem mF: (dl [cY ⟨false,⟨#[49]⟩,0⟩,cY ⟨false,⟨#[50]⟩,0⟩]).txt = [91,49,44,50,93]:=by rfl
theorem Fg:Tx F7:=by
 have hu:∀l:List UInt8,(∀c∈l,c.toNat<128)->dy ⟨l.toArray⟩:=by
  intro l hl;refine⟨l.map fun c=>(c.toNat:Int), ?_, ?_⟩
  ·intro c hc
   obtain⟨x,hx,rfl⟩:=List.mem_map.1 hc;have:=hl x hx;rw [cR];simp;omega
  ·show l=_
   induction l with
   | nil=>rfl
   | cons x l ih=>
    rw [List.map_cons,List.flatMap_cons,<- ih (fun c hc=>hl c (Zl _ hc)),nD _ (hl x (by simp)),UInt8.ofNat_toNat];rfl
 have hn:∀ (l:List UInt8) (x:Int),(∀c∈l,eN c=true)->l≠ []->(∀c,l.head?=some c->c≠48)->(∀c,l.getLast?=some c->c≠48)->(-1000000000<=x/\x<=1000000000)->Tx (cY ⟨false,⟨l.toArray⟩,x⟩):=fun l x h1 h2 h3 h4 h5=> .num _ (.inr ⟨⟨h1,h2,h3,h4⟩,h5⟩)
 refine .obj _ _ rfl ?_ ?_ ?_
 ·intro s hs
  simp only [List.mem_cons,List.mem_nil_iff,or_false] at hs;rcases hs with rfl | rfl
  ·exact hu [97,98] (by decide)
  ·exact hu [98] (by decide)
 ·refine List.pairwise_cons.2 ⟨?_,List.pairwise_cons.2 ⟨by simp,List.Pairwise.nil⟩⟩
  intro b hb;obtain rfl:=List.mem_singleton.1 hb
  show aG (nm _) (nm _)<0
  rw [show aG (nm ⟨#[97,98]⟩) (nm ⟨#[98]⟩) = -1 from rfl]
  decide
 ·intro u hu
  simp only [List.mem_cons,List.mem_nil_iff,or_false] at hu;rcases hu with rfl | rfl
  ·exact .null
  ·refine .list _ fun u hu=> ?_
   simp only [List.mem_cons,List.mem_nil_iff,or_false] at hu;rcases hu with rfl | rfl
   ·exact hn [49,53] (-1) (by decide) (by decide) (by decide) (by decide) (by decide)
   ·exact hn [49] 2 (by decide) (by decide) (by decide) (by decide) (by decide)
