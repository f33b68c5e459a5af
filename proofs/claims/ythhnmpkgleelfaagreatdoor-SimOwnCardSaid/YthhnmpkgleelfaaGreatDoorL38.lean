import Derived.Test.YthhnmpkgleelfaaGreatDoorL37
import Derived.Test.YthhnmpkgleelfaaGreatDoorL26
set_option linter.unusedVariables false
set_option linter.unusedSimpArgs false
namespace Go.Proofs.YthhnmpkgleelfaaGreatDoor
open Go.RowKit
theorem own_cut {w : World} {base n m q : Nat} {e : TypeId} {A : Option Addr} {us : List Value} (h : w.ownsRow base e 1 (.slice A n q) n us) (hm : m ≤ n) : w.ownsRow base e 1 (.slice A m q) m (us.take m) := by
 obtain ⟨h1, ⟨e1, rfl⟩ | ⟨g, cap, cur, e1, hb, hg, hc, hm2, hs, ht⟩⟩ := h
 ·obtain rfl : m = 0 := by omega
  obtain ⟨rfl, _, rfl⟩ := Value.slice.inj e1
  exact ⟨by simp, .inl ⟨rfl, rfl⟩⟩
 ·obtain ⟨rfl, _, rfl⟩ := Value.slice.inj e1
  refine ⟨by rw [List.length_take]; omega, .inr ⟨g, _, cur, rfl, hb, hg, by omega, hm2, hs, ?_⟩⟩
  rw [← ht, List.take_take]
  congr 1
  omega
set_option maxHeartbeats 4000000 in
theorem known_any {w : World} (c : Int) : Calls Tryz.prog 25 #[.int .i32 c] w fun e w' => e = .returned (.int .i32 (kn c)) ∧ w' = w := by
 by_cases h0 : c < 0
 ·rw [show kn c = -1 from kn_bad (by simp [isR]; omega)]
  go_enter Tryz.func25, Tryz.ntmps25
  go_wp2_with fail
  go_ret
  exact ⟨rfl, rfl⟩
 by_cases h1 : 1114111 < c
 ·rw [show kn c = -1 from kn_bad (by simp [isR]; omega)]
  go_enter Tryz.func25, Tryz.ntmps25
  go_wp2_with fail
  go_ret
  exact ⟨rfl, rfl⟩
 by_cases h2 : 55296 ≤ c
 ·by_cases h3 : c ≤ 57343
  ·rw [show kn c = -1 from kn_bad (by simp [isR]; omega)]
   go_enter Tryz.func25, Tryz.ntmps25
   go_wp2_with fail
   go_ret
   exact ⟨rfl, rfl⟩
  ·rw [show kn c = c from kn_ok (by simp [isR]; omega)]
   go_enter Tryz.func25, Tryz.ntmps25
   go_wp2_with fail
   go_ret
   exact ⟨rfl, rfl⟩
 ·rw [show kn c = c from kn_ok (by simp [isR]; omega)]
  go_enter Tryz.func25, Tryz.ntmps25
  go_wp2_with fail
  go_ret
  exact ⟨rfl, rfl⟩
set_option maxHeartbeats 4000000 in
theorem lawlist_any {w : World} {v : Value} {y : List Bool} (hy : Fls w 0 v y) (hl : y.length ≤ 1000000) : Calls Tryz.prog 27 #[v] w fun e w' => IntsP w (idx 0 y) e w' := by
 obtain ⟨A, q, rfl, hA⟩ := hy.form
 have H := Lib.hid hy
 have HA := Lib.hid hA
 clear hy hA
 go_enter Tryz.func27, Tryz.ntmps27
 go_wp2_with fail
 go_loopw [3, 4] (fun s3 s4 wr => LiRel w y s3 s4 wr) (fun _ v _ => y.length - (intOf v).toNat)
 case atStart => exact ⟨0, [], none, 0, Nat.zero_le _, rfl, rfl, Below.refl _ _, ⟨rfl, .inl ⟨rfl, rfl⟩⟩, rfl, Nat.le_refl _⟩
 case round =>
  obtain ⟨k, pre, A3, q3, hk, rfl, rfl, hb, ho, he, hp⟩ := hrel
  have Hb := Lib.hid hb
  have Ho := Lib.hid ho
  have He := Lib.hid he
  have hbs := hb.size
  by_cases hlt : k < y.length
  ·obtain ⟨g, rfl⟩ := HA.out (by omega)
   obtain ⟨b, hbk⟩ : ∃ b, y[k]? = some b := ⟨_, List.getElem?_eq_getElem hlt⟩
   have c1 := (H.out.below hb).cell hbk
   have Hd := Lib.hid (drop_at hbk)
   have hki : (k : Int) < y.length := by omega
   clear hb ho he hbk
   cases b
   ·have Hst := Lib.hid (show idx 0 y = pre ++ idx (k + 1) (y.drop (k + 1)) by rw [He.out, Hd.out]; rfl)
    go_wp2_with fail
    exact ⟨⟨k + 1, pre, A3, q3, by omega, rfl, by go_num, Hb.out, Ho.out, Hst.out, by omega⟩, by simp [intOf]; omega⟩
   ·have Hst := Lib.hid (show idx 0 y = (pre ++ [(k : Int)]) ++ idx (k + 1) (y.drop (k + 1)) by rw [He.out, Hd.out, List.append_assoc]; rfl)
    have Hoa := Lib.hid (ownsRow_below Ho.out (alloc_below wr (.cells #[.int .i64 (k : Int)] 3)) (Nat.le_refl _))
    have Hcn := Lib.hid (cells_new wr [intV k] 3)
    go_wp2_with (at_builtin; refine wpList_append_k elInt rfl (.tmp 15) (.tmp 17) rfl w.heap.size (.slice A3 pre.length q3) pre.length wr.heap.size 1 1 (pre.map intV) [intV k] (by simp [Act.eval]) Hoa.out (by simp [Act.eval]) rfl Hcn.out (by simp [intV, Value.oneCell']) (by unfold maxLen; omega) (by omega) (by simp; omega) ?_; intro v' w5 h1 h2 h3; have Hp := Lib.hid h1; have Hg := Lib.hid h2; clear h1 h2 h3)
    obtain ⟨A5, q5, rfl, -, -, -⟩ := ownsRow_slice Hp.out
    have hb2 : Below w.heap.size w (wr.alloc (.cells #[.int .i64 (k : Int)] 3)) := Hb.out.alloc hbs _
    refine ⟨⟨k + 1, pre ++ [(k : Int)], A5, q5, by omega, by simp, by go_num, own_below hb2 Hoa.out hb2.size Hg.out, ?_, Hst.out, by simp; omega⟩, by simp [intOf]; omega⟩
    unfold Ints
    rw [List.length_append, List.map_append]
    exact Hp.out
  ·obtain rfl : k = y.length := by omega
   have Hst := Lib.hid (show idx 0 y = pre by rw [He.out, List.drop_length]; simp [idx])
   clear hb ho he
   go_wp2_with fail
   go_ret
   rw [Hst.out]
   exact ⟨A3, q3, rfl, Hb.out, Ho.out⟩
end Go.Proofs.YthhnmpkgleelfaaGreatDoor
