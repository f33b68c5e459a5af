import Derived.Test.YtjnpfpaigedpbaaDoorD1
namespace Go.Proofs.YtjnpfpaigedpbaaDoor
open Go.RowKit

set_option maxHeartbeats 400000 in
/-- The law's form: the bytes of a character, or none. -/
theorem lform_any {w : World} {aU aE : Addr} (c : Int) (hg : Glob w aU aE) :
    Calls Tryd.prog 21 #[.int .i32 c] w fun e w' => ∃ v, e = .returned v ∧ Below w.heap.size w w' ∧ Bs w' v (frm c) := by
  have Hg := Lib.hid hg
  have hn : Bs w (.slice none 0 0) [] := ⟨by simp, none, 0, rfl, Nat.le_refl _, fun h => by simp at h⟩
  have Hn := Lib.hid hn
  clear hg hn
  go_enter Tryd.func21, Tryd.ntmps21
  go_wp2_with fail
  refine (append_any _ c [] w aU aE Hn.out Hg.out (by simp)).mono ?_
  rintro e w' ⟨hb, ⟨hf, rfl⟩ | ⟨hf, v, rfl, ho⟩⟩
  · have Hf := Lib.hid hf
    clear hf
    go_wp2
    go_ret
    exact ⟨_, rfl, hb, by rw [Hf.out]; exact Hn.out.below hb⟩
  · have Ho := Lib.hid ho
    clear hf ho
    go_wp2
    go_ret
    exact ⟨_, rfl, hb, Ho.out.bs⟩

set_option maxHeartbeats 400000 in
/-- wicketref.Bytes: a copy. -/
theorem bytes_any {w : World} {v : Value} {xs : List UInt8} (hb : Bs w v xs) (hlen : xs.length ≤ 140737488355328) :
    Calls Tryd.prog 17 #[v] w fun e w' => ∃ v', e = .returned v' ∧ Below w.heap.size w w' ∧ OwnB w' w.heap.size v' xs := by
  obtain ⟨hm, A, cap, rfl, hc, _⟩ := id hb
  obtain ⟨cur, hcur, hmk⟩ := make_bytes xs.length hlen
  have Hb := Lib.hid hb
  have Hcur := Lib.hid hcur
  clear hb hcur
  have hb1 := alloc_below w (.cells cur 5)
  have ho : OwnB (w.alloc (.cells cur 5)) w.heap.size (.slice (some ⟨w.heap.size, 0, none⟩) 0 xs.length) [] := OwnB.made (heap_alloc_new _ _) (Nat.le_refl _) (by unfold maxLen; omega) Hcur.out
  have Ho := Lib.hid ho
  have Hb1 := Lib.hid hb1
  have Hbs := Lib.hid (Hb.out.below hb1)
  clear ho hb1
  go_enter Tryd.func17, Tryd.ntmps17
  go_wp2_with (at_builtin; refine wpList_append_bs rfl (.tmp 5) (.tmp 6) rfl w.heap.size _ _ [] xs (by simp [Act.eval]) Ho.out (by simp [Act.eval]) Hbs.out (by simp; omega) (by simp) ?_; intro v2 w2 h1 h2 h3)
  go_ret
  refine ⟨_, rfl, Hb1.out.grown h2 (by simp) (fun k e => by cases e; exact Nat.le_refl _), by simpa using h1⟩
end Go.Proofs.YtjnpfpaigedpbaaDoor
