import Derived.Test.YtjnpfpaigedpbaaDoorB1
namespace Go.Proofs.YtjnpfpaigedpbaaDoor
open Go.RowKit

/-- What Append gives: a new row that holds the bytes and the form, or nil and the error. -/
def Appended (aU : Addr) (xs : List UInt8) (c : Int) (w : World) (e : Ending) (w' : World) : Prop :=
  Below w.heap.size w w' ∧ ((frm c = [] ∧ e = .returned (.tuple #[.slice none 0 0, errS aU])) ∨
    (frm c ≠ [] ∧ ∃ v, e = .returned (.tuple #[v, .nilIface]) ∧ OwnB w' w.heap.size v (xs ++ frm c)))

theorem bcell {W w1 : World} (hb : Below W.heap.size W w1) : (∀ b o, b < W.heap.size → w1.cell? ⟨b, o, none⟩ = W.cell? ⟨b, o, none⟩) ∧ (∀ b o, b < W.heap.size → w1.frozen? ⟨b, o, none⟩ = W.frozen? ⟨b, o, none⟩) :=
  ⟨fun b o h => hb.cell (p := ⟨b, o, none⟩) h, fun b o h => hb.frozen (p := ⟨b, o, none⟩) h⟩

theorem bs_arr {w : World} {g : Nat} {c : Int} (h : w.heap[g]? = some (.cells #[.int .u8 (byteAt (frm c) 0), .int .u8 (byteAt (frm c) 1), .int .u8 (byteAt (frm c) 2), .int .u8 (byteAt (frm c) 3)] 67 (0, 0))) :
    Bs w (.slice (some ⟨g, 0, none⟩) (frm c).length 4) (frm c) := by
  have h4 := frm_len c
  refine ⟨by omega, _, 4, rfl, h4, fun h0 => ⟨g, 0, rfl, fun i hi => ?_⟩⟩
  have hi' : i = 0 ∨ i = 1 ∨ i = 2 ∨ i = 3 := by omega
  rcases hi' with rfl | rfl | rfl | rfl <;> simp [World.cell?, h]

theorem make_bytes (n : Nat) (hn : n ≤ 140737488355328) : ∃ cur : Array Value, cur.size = n ∧
    ∀ W : World, (Instr.makeSlice 24 (.int .i64 0) (.int .i64 (n : Int))).run Tryd.prog W = .ok (.slice (some ⟨W.heap.size, 0, none⟩) 0 n) (W.alloc (.cells cur 5)) := by
  obtain ⟨i0, hi, hz0, hz1, hz2⟩ := info_parts info5
  refine ⟨madeCells (Value.cells (.int .u8 0)) n, by simp [madeCells, Value.cells], fun W => ?_⟩
  have := run_make (P := Tryd.prog) W 24 5 i0 (.int .u8 0) Tryd.underlying24 hi hz0 .i64 .i64 0 n (by omega) (by omega) (by rw [hz2]; omega) (by omega)
  rw [hz1] at this
  simpa using this

set_option maxHeartbeats 1000000 in
theorem append_any (v : Value) (c : Int) (xs : List UInt8) (w : World) (aU aE : Addr) (hb : Bs w v xs) (hg : Glob w aU aE) (hlen : xs.length ≤ 140737488351232) :
    Calls Tryd.prog 16 #[v, .int .i32 c] w fun e w' => Appended aU xs c w e w' := by
  obtain ⟨hm, A, cap, rfl, hc, hcell⟩ := id hb
  have Hb := Lib.hid hb
  have Hg := Lib.hid hg
  clear hb hg hcell
  have h4 := frm_len c
  go_enter Tryd.func16, Tryd.ntmps16
  go_wp2_with fail
  refine (form_any c _).mono ?_
  rintro e w1 ⟨rfl, hb1⟩
  rw [show frmV c = .agg #[.int .u8 (byteAt (frm c) 0), .int .u8 (byteAt (frm c) 1), .int .u8 (byteAt (frm c) 2), .int .u8 (byteAt (frm c) 3)] from rfl]
  have hU := (Hg.out.below hb1).u
  have h0s := World.block_lt_of_cell? w1 _ hU
  have Hba : Hid (∀ (w : World) (g : Nat), w.heap[g]? = some (.cells #[.int .u8 (byteAt (frm c) 0), .int .u8 (byteAt (frm c) 1), .int .u8 (byteAt (frm c) 2), .int .u8 (byteAt (frm c) 3)] 67 (0, 0)) → Bs w (.slice (some ⟨g, 0, none⟩) (frm c).length 4) (frm c)) := fun w g h => bs_arr h
  generalize hn : (frm c).length = n at *
  obtain ⟨g0, e0⟩ : ∃ g, byteAt (frm c) 0 = g := ⟨_, rfl⟩
  obtain ⟨g1, e1⟩ : ∃ g, byteAt (frm c) 1 = g := ⟨_, rfl⟩
  obtain ⟨g2, e2⟩ : ∃ g, byteAt (frm c) 2 = g := ⟨_, rfl⟩
  obtain ⟨g3, e3⟩ : ∃ g, byteAt (frm c) 3 = g := ⟨_, rfl⟩
  rw [e0, e1, e2, e3]
  have Hn := Lib.hid hn
  have E0 := Lib.hid e0
  have E1 := Lib.hid e1
  have E2 := Lib.hid e2
  have E3 := Lib.hid e3
  clear hn e0 e1 e2 e3
  by_cases hf : frm c = []
  · have hf' : n = 0 := by rw [← Hn.out, hf]; rfl
    subst hf'
    have Hf := Lib.hid hf
    clear hf
    go_wp2
    go_quiet (fail)
    all_goals (go_wp2; go_ret2)
    exact ⟨(hb1.alloc hb1.size _).trans ⟨rfl, rfl, rfl, Nat.le_refl _, fun _ _ => rfl⟩, .inl ⟨Hf.out, rfl⟩⟩
  · have Hf := Lib.hid hf
    have hpos : 0 < n := by rw [← Hn.out]; exact List.length_pos_iff.2 hf
    clear hf
    have hn0 : ((n : Int) == 0) = false := by simp; omega
    obtain ⟨cur, hcur, hmk⟩ := make_bytes (xs.length + n) (by omega)
    rw [show ((xs.length + n : Nat) : Int) = (xs.length : Int) + n by omega] at hmk
    have Hcur := Lib.hid hcur
    clear hcur
    go_wp2
    obtain ⟨W2, hW2⟩ : ∃ W2, ((w1.alloc (.cells #[.int .u8 g0, .int .u8 g1, .int .u8 g2, .int .u8 g3] 67)).alloc (.cells cur 5)) = W2 := ⟨_, rfl⟩
    rw [hW2]
    have hb2 : Below w.heap.size w W2 := by rw [← hW2]; exact (hb1.alloc hb1.size _).alloc (by have := hb1.size; simp; omega) _
    have harr : W2.heap[w1.heap.size]? = some (.cells #[.int .u8 g0, .int .u8 g1, .int .u8 g2, .int .u8 g3] 67 (0, 0)) := by
      rw [← hW2]; exact (Below.heap_alloc _ _ _ (by simp)).trans (heap_alloc_new w1 _)
    have hrow : W2.heap[w1.heap.size + 1]? = some (.cells cur 5 (0, 0)) := by
      rw [← hW2]; have := heap_alloc_new (w1.alloc (.cells #[.int .u8 g0, .int .u8 g1, .int .u8 g2, .int .u8 g3] 67)) (.cells cur 5); simpa using this
    have hsz : W2.heap.size = w1.heap.size + 2 := by rw [← hW2]; simp
    clear hW2
    have Hown := Lib.hid (OwnB.made (w := W2) (base := w.heap.size) hrow (by have := hb1.size; omega) (by unfold maxLen; omega) Hcur.out)
    have Hsz := Lib.hid hsz
    have Harr := Lib.hid harr
    have Hbs := Lib.hid (Hb.out.below hb2)
    clear harr hrow hsz
    have h4i : (n : Int) ≤ 4 := by omega
    have h4a : (n : Int) ≤ Tryd.prog.arrayLen 67 := by rw [show Tryd.prog.arrayLen 67 = 4 by kernel_rfl]; omega
    have Hnext : ∀ (W W3 : World) (row : Option Nat), W.grownBy W3 row → W.heap = W2.heap → row = some (w1.heap.size + 1) → Hid (Bs W3 (.slice (some ⟨w1.heap.size, 0, none⟩) n 4) (frm c)) := fun W W3 row hg he hr => by
      have h := Hba.out W3 w1.heap.size (by
        rw [hg.block w1.heap.size (by rw [he, Hsz.out]; omega) (by rw [hr]; simp), he, Harr.out, E0.out, E1.out, E2.out, E3.out])
      exact h
    have HN := Lib.hid Hnext
    clear Hnext
    go_region_law (first | (refine step_append_bs rfl (.tmp 22) (.tmp 23) rfl w.heap.size _ _ [] xs (by simp [Act.eval, Act.put]) Hown.out (by simp [Act.eval, Act.put]) Hbs.out (by simp; omega) (by exact hb2.size) ?_; intro v3 W3 ho3 hg3 hv3; have Hbf := HN.out _ _ _ hg3 rfl rfl; have Ho3 := Lib.hid ho3; have Hg3 := Lib.hid hg3; have Hv3 := Lib.hid hv3; clear ho3 hg3 hv3) | (refine step_append_bs rfl (.tmp 24) (.tmp 26) rfl w.heap.size _ _ ([] ++ xs) (frm c) (by simp [Act.eval, Act.put]) Ho3.out (by simp [Act.eval, Act.put]) Hbf.out (by rw [Hn.out]; simp; omega) (Nat.le_trans hb2.size Hg3.out.size) ?_; intro v4 W4 ho4 hg4 hv4; have Ho4 := Lib.hid ho4; have Hg4 := Lib.hid hg4; have Hv4 := Lib.hid hv4; clear ho4 hg4 hv4))
    go_wp2
    go_ret2
    have hs1 := hb1.size
    have hb3 : Below w.heap.size w W3 := hb2.drew.grown Hg3.out hb2.size (fun k e => by cases e; exact Nat.le_succ_of_le hs1)
    have hb4 : Below w.heap.size w W4 := hb3.grown Hg4.out hb3.size (fun k e => by
      rcases Hv3.out with h | h
      · rw [h] at e; cases e; exact Nat.le_succ_of_le hs1
      · rw [h] at e; cases e; exact hb2.size)
    exact ⟨hb4, .inr ⟨Hf.out, v4, rfl, by simpa using Ho4.out⟩⟩
end Go.Proofs.YtjnpfpaigedpbaaDoor
