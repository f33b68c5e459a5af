import Derived.Test.YtjnpfpaigedpbaaDoorH3
import Derived.Test.YtjnpfpaigedpbaaDoorE1
import Derived.LoopNIn
namespace Go.Proofs.YtjnpfpaigedpbaaDoor
open Go.RowKit Go.Shelf

/-- What the law's last lines need: the result's cell holds, all below stays. -/
def Ends (w : World) (W : World) : Prop := Bx W (w.heap.size + 1) 4 (.bool true) ∧ Below w.heap.size w W
def marksOf (Ds : List Nat) : List Deferred := Ds.map fun D => { target := .collected D, args := #[] }
def Marked (w : World) (Ds : List Nat) (W : World) : Prop := Ds.Nodup ∧ ∀ D ∈ Ds, w.heap.size ≤ D ∧ W.heap[D]? = some (.deferred (some []))
theorem Marked.later {w W W' : World} {Ds : List Nat} (h : Marked w Ds W) (hb : Below W.heap.size W W') : Marked w Ds W' :=
  ⟨h.1, fun D hD => ⟨(h.2 D hD).1, (hb.block D (lt_of_heap (h.2 D hD).2)).trans (h.2 D hD).2⟩⟩
theorem Marked.setBool {w W : World} {Ds : List Nat} (h : Marked w Ds W) (p : Addr) (v : Value) (hp : ∀ D ∈ Ds, D ≠ p.block) : Marked w Ds (W.setCell p v) :=
  ⟨h.1, fun D hD => ⟨(h.2 D hD).1, (Below.heap_setCell W p v D (hp D hD)).trans (h.2 D hD).2⟩⟩
theorem Marked.ne {w W : World} {Ds : List Nat} (h : Marked w Ds W) {k : Nat} {t : TypeId} {v : Value} (hb : Bx W k t v) : ∀ D ∈ Ds, D ≠ k := fun D hD e => by
  have h1 := (h.2 D hD).2
  unfold Bx at hb; rw [e, hb] at h1; cases h1
theorem Marked.below {w W W' : World} {Ds : List Nat} {B : Nat} (h : Marked w Ds W) (hb : Below B W W') (hB : ∀ D ∈ Ds, D < B) : Marked w Ds W' :=
  ⟨h.1, fun D hD => ⟨(h.2 D hD).1, (hb.block D (hB D hD)).trans (h.2 D hD).2⟩⟩
theorem Marked.more {w W : World} {Ds : List Nat} {D : Nat} (h : Marked w Ds W) (hl : ∀ E ∈ Ds, E < D) (hD : w.heap.size ≤ D) (hk : W.heap[D]? = some (.deferred (some []))) : Marked w (D :: Ds) W :=
  ⟨List.nodup_cons.2 ⟨fun hm => Nat.lt_irrefl _ (hl D hm), h.1⟩, fun E hE => by
    rcases List.mem_cons.1 hE with rfl | hE
    · exact ⟨hD, hk⟩
    · exact h.2 E hE⟩
theorem res4 {tmps : Array Value} {w : World} {b : Nat} (h : tmps.getD 4 undef = .pointer (some ⟨b, 0, none⟩)) (hc : w.cell? ⟨b, 0, none⟩ = some (.bool true)) :
    (results Tryd.f4 tmps).run Tryd.prog w = .ok (.bool true) w := by
  have hr : Tryd.f4.results = #[.cell 4 4] := rfl
  have h' : tmps[4]?.getD undef = .pointer (some ⟨b, 0, none⟩) := by simpa using h
  simp [results, hr, h', hc, go_sem]
theorem leaves_marks {w : World} {tmps : Array Value} (h4 : tmps.getD 4 undef = .pointer (some ⟨w.heap.size + 1, 0, none⟩)) :
    ∀ (Ds : List Nat) (W : World), Marked w Ds W → Ends w W → LeavesInM Fence.wide 9 Tryd.prog Tryd.f4 tmps (fun e w' => LawTrue w e w') (marksOf Ds) .returning W
  | [], W, _, hE => ⟨_, res4 h4 hE.1.cell, rfl, hE.2⟩
  | D :: Ds, W, hM, hE => by
    have hD := hM.2 D (List.mem_cons_self ..)
    have hno := List.nodup_cons.1 hM.1
    refine ⟨by simp, .inl ⟨_, _, rfl, run_takeDeferred hD.2, ?_⟩⟩
    refine leaves_marks h4 Ds _ ⟨hno.2, fun E hE' => ⟨(hM.2 E (List.mem_cons_of_mem _ hE')).1, ?_⟩⟩ ⟨?_, ?_⟩
    · exact (World.putObj_heap_other (by rintro rfl; exact hno.1 hE')).trans (hM.2 E (List.mem_cons_of_mem _ hE')).2
    · have hne : w.heap.size + 1 ≠ D := fun e => by
        have h1 := hE.1
        unfold Bx at h1; rw [e, hD.2] at h1; cases h1
      exact (World.putObj_heap_other hne).trans hE.1
    · exact hE.2.trans (belowK_b (w := w) (Nat.le_refl _) W D _ _ hD.1 hD.2 rfl rfl)
theorem ret_marks {w W : World} {a : Act} (Ds : List Nat) (h4 : a.tmps.getD 4 undef = .pointer (some ⟨w.heap.size + 1, 0, none⟩)) (hd : a.defers = marksOf Ds) (hM : Marked w Ds W) (hE : Ends w W) :
    bodyPostM Fence.wide 9 Tryd.prog Tryd.f4 (fun e w' => LawTrue w e w') .ret a W := by
  show LeavesInM _ _ _ _ _ _ a.defers _ _
  rw [hd]
  exact leaves_marks h4 Ds W hM hE
end Go.Proofs.YtjnpfpaigedpbaaDoor
