import Derived.Test.YtjnpfpaigedpbaaDoorD2
namespace Go.Proofs.YtjnpfpaigedpbaaDoor
open Go.RowKit

def LawTrue (w : World) (e : Ending) (w' : World) : Prop := e = .returned (.bool true) ∧ Below w.heap.size w w'

theorem isR_of_ne {c : Int} (h : frm c ≠ []) : isR c = true := by
  cases hc : isR c
  · exact absurd (frm_nil hc) h
  · rfl
theorem order_law {c d : Int} (hc : frm c ≠ []) (hd : frm d ≠ []) : (decide (c < d) == Op.bytesLess (frm c) (frm d)) = true ∧ ((c == d) == (frm c == frm d)) = true := by
  have rc := isR_of_ne hc
  have rd := isR_of_ne hd
  have pc := isR_pos rc
  have pd := isR_pos rd
  obtain ⟨m, rfl⟩ := Int.eq_ofNat_of_zero_le pc
  obtain ⟨n, rfl⟩ := Int.eq_ofNat_of_zero_le pd
  rcases Nat.lt_trichotomy m n with h | rfl | h
  · have hl := frm_less rc rd h
    have hne : frm m ≠ frm n := fun e => by have := frm_inj rc rd e; omega
    have e1 : decide ((m : Int) < n) = true := by simp; omega
    have e2 : ((m : Int) == n) = false := by simp; omega
    have e3 : (frm (m : Int) == frm n) = false := by simp [hne]
    rw [e1, hl.1, e2, e3]; exact ⟨rfl, rfl⟩
  · simp [lt_irrefl']
  · have hl := frm_less rd rc h
    have hne : frm m ≠ frm n := fun e => by have := frm_inj rc rd e; omega
    have e1 : decide ((m : Int) < n) = false := by simp; omega
    have e2 : ((m : Int) == n) = false := by simp; omega
    have e3 : (frm (m : Int) == frm n) = false := by simp [hne]
    rw [e1, hl.2, e2, e3]; exact ⟨rfl, rfl⟩

set_option maxHeartbeats 1000000 in
theorem order_any {w : World} {aU aE : Addr} (c d : Int) (hg : Glob w aU aE) :
    Calls Tryd.prog 8 #[.int .i32 c, .int .i32 d] w fun e w' => LawTrue w e w' := by
  have Hg := Lib.hid hg
  clear hg
  go_enter Tryd.func8, Tryd.ntmps8
  go_wp2_with fail
  refine (first_any Hg.out).mono ?_
  rintro e w1 ⟨rfl, hb1⟩
  have Hb1 := Lib.hid hb1
  clear hb1
  go_wp2_with fail
  refine (lform_any c (Hg.out.below Hb1.out)).mono ?_
  rintro e w2 ⟨v2, rfl, hb2, hv2⟩
  have Hb2 := Lib.hid (bthen Hb1.out hb2)
  have Hv2 := Lib.hid hv2
  clear hb2 hv2 Hb1
  go_wp2_with fail
  refine (lform_any d (Hg.out.below Hb2.out)).mono ?_
  rintro e w3 ⟨v3, rfl, hb3, hv3⟩
  have Hb3 := Lib.hid (bthen Hb2.out hb3)
  have Hv3 := Lib.hid hv3
  have Hv2' := Lib.hid (Hv2.out.below hb3)
  clear hb3 hv3 Hb2 Hv2
  have q2 := string_of_bs Hv2'.out
  have q3 := string_of_bs Hv3.out
  have hlaw := fun h2 h3 => @order_law c d h2 h3
  have Hlaw := Lib.hid hlaw
  clear hlaw
  obtain ⟨_, A2, n2, rfl, _, _⟩ := Hv2'.out
  obtain ⟨_, A3, n3, rfl, _, _⟩ := Hv3.out
  clear Hv2' Hv3
  by_cases h2 : frm c = []
  · have e2 : (((frm c).length : Int) == 0) = true := by rw [h2]; rfl
    have H2 := Lib.hid h2
    clear h2
    go_wp2
    go_ret
    exact ⟨rfl, Hb3.out⟩
  · have e2 : (((frm c).length : Int) == 0) = false := by have := List.length_pos_iff.2 h2; simp; omega
    by_cases h3 : frm d = []
    · have e3 : (((frm d).length : Int) == 0) = true := by rw [h3]; rfl
      have H2 := Lib.hid h2
      have H3 := Lib.hid h3
      clear h2 h3
      go_wp2
      go_ret
      exact ⟨rfl, Hb3.out⟩
    · have e3 : (((frm d).length : Int) == 0) = false := by have := List.length_pos_iff.2 h3; simp; omega
      obtain ⟨l1, l2⟩ := Hlaw.out h2 h3
      have H2 := Lib.hid h2
      have H3 := Lib.hid h3
      clear h2 h3
      go_wp2
      go_ret
      exact ⟨rfl, Hb3.out⟩
end Go.Proofs.YtjnpfpaigedpbaaDoor
