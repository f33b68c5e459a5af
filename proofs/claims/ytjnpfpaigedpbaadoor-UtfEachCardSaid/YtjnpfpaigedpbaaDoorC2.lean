import Derived.Test.YtjnpfpaigedpbaaDoorC1
namespace Go.Proofs.YtjnpfpaigedpbaaDoor
open Go.RowKit Go.Shelf
attribute [local go_sem] Oper.semAt_some

theorem KpB.setCell {B B2 : Nat} (W : World) {p : Addr} (h1 : B ≤ p.block) (h2 : p.block < B2) (v : Value) : KpB B B2 W (W.setCell p v) := fun k cs t z hk hc =>
  (Below.heap_setCell W p v k (by omega)).trans hc
theorem KpB.alloc {B B2 : Nat} (W : World) (o : Obj) : KpB B B2 W (W.alloc o) := KpB.of_below ((Below.refl _ _).alloc (Nat.le_refl _) _)
theorem ko_below {W W' : World} (h : Below W.heap.size W W') : KeepsOthers W W' := ⟨h.size, fun k _ hk _ => (h.block k (lt_of_heap hk)).trans hk⟩

theorem each1_stops {w : World} (n : Nat) (hn : 1 ≤ n) (sb : Nat) (s : ByteArray) (B B2 : Nat) (hsz : s.size ≤ 9223372036854775807) (aU aE : Addr)
    (hB : B2 ≤ w.heap.size) (h2 : 2 < B) (hU : aU.block < B) (hE : aE.block < B) (hg : Glob w aU aE) (hs : w.cell? ⟨sb, 0, none⟩ = some (.string s)) :
    SeqStopsK Fence.wide n Tryd.prog 30 #[.pointer (some ⟨sb, 0, none⟩)] (fun x : Nat × Nat => #[.int .i64 (x.1 : Int), .int .i32 (x.2 : Int)]) (KpB B B2) (fun ys => ys = each s.data.toList) (fun ys => ys <+: each s.data.toList) (each s.data.toList).length w :=
  fun l J Jx W hW hJ hJx hY h0 => each1_in n hn l sb s B B2 hsz aU aE J Jx W (Nat.le_trans hB hW.size) h2 hU hE (hg.below hW) hJ hJx hY (cell_later hW hs) h0

/-- string(b). -/
theorem string_of_bs {w : World} {v : Value} {xs : List UInt8} (h : Bs w v xs) : (convert 24 9 v).run Tryd.prog w = .ok (.string ⟨xs.toArray⟩) w := by
  obtain ⟨hm, A, c, rfl, hc, hcell⟩ := h
  rcases Nat.eq_zero_or_pos xs.length with h0 | h0
  · obtain rfl : xs = [] := List.eq_nil_of_length_eq_zero h0
    rw [run_convert_bytes_string w 24 9 5 A _ c Tryd.underlying24 Tryd.underlying5 Tryd.underlying9]
    cases A with
    | none => simp [Conv.bytesToString]; rfl
    | some a => simp [Conv.bytesToString, loadCells, loadCellsFrom]; rfl
  · obtain ⟨b, o, rfl, hcl⟩ := hcell h0
    refine run_convert_bytes_back w 24 9 5 ⟨b, o, none⟩ c xs Tryd.underlying24 Tryd.underlying5 Tryd.underlying9 fun j hj => ?_
    have := hcl j hj
    unfold Addr.add
    split
    · rename_i h; subst h; simpa [byteAt, List.getElem?_eq_getElem hj] using this
    · simpa [byteAt, List.getElem?_eq_getElem hj] using this

set_option maxHeartbeats 400000 in
theorem each_any {w : World} {v : Value} {xs : List UInt8} (h : Bs w v xs) :
    Calls Tryd.prog 14 #[v] w fun e w' => e = .returned (.func (.func 30) #[] #[.pointer (some ⟨w.heap.size, 0, none⟩)]) ∧ w.alloc (.cells #[.string ⟨xs.toArray⟩] 9) = w' := by
  have hc := string_of_bs h
  have H := Lib.hid h
  clear h
  go_enter Tryd.func14, Tryd.ntmps14
  go_wp2
  go_ret
  exact ⟨rfl, rfl⟩
end Go.Proofs.YtjnpfpaigedpbaaDoor
