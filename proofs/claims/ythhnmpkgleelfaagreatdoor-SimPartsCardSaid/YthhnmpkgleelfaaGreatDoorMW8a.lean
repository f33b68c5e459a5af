import Derived.Test.YthhnmpkgleelfaaGreatDoorM4
import Derived.Test.YthhnmpkgleelfaaGreatDoorM3
import Derived.Test.YthhnmpkgleelfaaGreatDoorM1
import Derived.Test.YthhnmpkgleelfaaGreatDoorM7
import Derived.Test.YthhnmpkgleelfaaGreatDoorM34
import Derived.Test.YthhnmpkgleelfaaGreatDoorM33
import Derived.Test.YthhnmpkgleelfaaGreatDoorM32
import Derived.Test.YthhnmpkgleelfaaGreatDoorM31
import Derived.Test.YthhnmpkgleelfaaGreatDoorM30
import Derived.Test.YthhnmpkgleelfaaGreatDoorM29
import Derived.Test.YthhnmpkgleelfaaGreatDoorM28
import Derived.Test.YthhnmpkgleelfaaGreatDoorM26
import Derived.Test.YthhnmpkgleelfaaGreatDoorM25
import Derived.Test.YthhnmpkgleelfaaGreatDoorM24
import Derived.Test.YthhnmpkgleelfaaGreatDoorM23
import Derived.Test.YthhnmpkgleelfaaGreatDoorM22
import Derived.Test.YthhnmpkgleelfaaGreatDoorM21
import Derived.Test.YthhnmpkgleelfaaGreatDoorM20
import Derived.Test.YthhnmpkgleelfaaGreatDoorM19
import Derived.Test.YthhnmpkgleelfaaGreatDoorM18
import Derived.Test.YthhnmpkgleelfaaGreatDoorM17
import Derived.Test.YthhnmpkgleelfaaGreatDoorM16
import Derived.Test.YthhnmpkgleelfaaGreatDoorM12
import Derived.Test.YthhnmpkgleelfaaGreatDoorM11
import Derived.Test.YthhnmpkgleelfaaGreatDoorM10
import Derived.Test.YthhnmpkgleelfaaGreatDoorM9
import Derived.Test.YthhnmpkgleelfaaGreatDoorM8
import Derived.Test.YthhnmpkgleelfaaGreatDoorM2
import Derived.Test.YthhnmpkgleelfaaGreatDoorM15
import Derived.Test.YthhnmpkgleelfaaGreatDoorM13
import Derived.Test.YthhnmpkgleelfaaGreatDoorM14
import Derived.Test.YthhnmpkgleelfaaGreatDoorM6
import Derived.Test.YthhnmpkgleelfaaGreatDoorM5
import Derived.Test.YthhnmpkgleelfaaGreatDoorM27
import Derived.Test.YthhnmpkgleelfaaGreatDoorM41
import Derived.Test.YthhnmpkgleelfaaGreatDoorM40
import Derived.Test.YthhnmpkgleelfaaGreatDoorM39
import Derived.Test.YthhnmpkgleelfaaGreatDoorM38
import Derived.Test.YthhnmpkgleelfaaGreatDoorM37
import Derived.Test.YthhnmpkgleelfaaGreatDoorM36
set_option linter.unusedVariables false
set_option linter.unusedSimpArgs false
namespace Go.Proofs.YthhnmpkgleelfaaGreatDoor
def orZ (x y : List Bool) : List Bool := List.zipWith (· || ·) x y
theorem orZ_get (x y : List Bool) (hl : x.length = y.length) (j : Nat) : (orZ x y)[j]? = some true ↔ x[j]? = some true ∨ y[j]? = some true := by
 unfold orZ
 rw [List.getElem?_zipWith]
 by_cases h : j < x.length
 ·obtain ⟨a, ha⟩ : ∃ a, x[j]? = some a := ⟨_, List.getElem?_eq_getElem h⟩
  obtain ⟨b, hb⟩ : ∃ b, y[j]? = some b := ⟨_, List.getElem?_eq_getElem (by omega)⟩
  rw [ha, hb]
  simp
 ·have h1 : x[j]? = none := by simp; omega
  have h2 : y[j]? = none := by simp; omega
  rw [h1, h2]
  simp
def grp (p t : List UInt8) : List UInt8 := 40 :: 63 :: 58 :: (p ++ zb t)
theorem grp_atom {p : List UInt8} {x : Rx} (h : Parsed p x) (t : List UInt8) : Atom (grp p t) x t := by
 obtain ⟨l, hl, rfl⟩ := h
 exact .group2 (hl.app t)
theorem grp_nx (p t : List UInt8) : nx (grp p t) = 40 := nx_lit _ _ (by decide)
theorem grp_seq {p t : List UInt8} {x y : Rx} {l : List Rx} {m zs : List UInt8} (hp : Piece (grp p t) y m) (h2 : SeqL m l zs) : SeqL (grp p t) (y :: l) zs := .more (by rw [grp_nx]; decide) hp h2
theorem grp_rep {p t m : List UInt8} {x : Rx} {a b : Int} (h : Parsed p x) (hq : Quant t a b m) (h3 : rptB (nx m) = false) : Piece (grp p t) (.rep x a b) m := .rep (by rw [grp_nx]; decide) (grp_atom h t) hq h3
theorem sh_alt {p q : List UInt8} {x y : Rx} (h : Parsed p x) (k : Parsed q y) : Parsed (grp p (124 :: grp q [])) (.alt x y) :=
 ⟨[x, y], .more (grp_seq (x := x) (.bare (grp_atom h _) (by rw [nx_lit _ _ (by decide)]; decide)) (.done (by rw [nx_lit _ _ (by decide)]; decide))) (.one (l := [y]) (grp_seq (x := y) (.bare (grp_atom k _) (by decide)) (.done (by decide))) (by decide)), rfl⟩
theorem sh_rep {p t : List UInt8} {x : Rx} {a b : Int} (h : Parsed p x) (hq : Quant t a b []) : Parsed (grp p t) (.rep x a b) :=
 ⟨[.rep x a b], .one (l := [.rep x a b]) (grp_seq (x := x) (grp_rep h hq (by decide)) (.done (by decide))) (by decide), rfl⟩
theorem sh_two {p : List UInt8} {x : Rx} (h : Parsed p x) : Parsed (grp p (grp p [])) (.cat x x) :=
 ⟨[.cat x x], .one (l := [x, x]) (grp_seq (x := x) (.bare (grp_atom h _) (by rw [grp_nx]; decide)) (grp_seq (x := x) (.bare (grp_atom h _) (by decide)) (.done (by decide)))) (by decide), rfl⟩
theorem sh_long {p : List UInt8} {x : Rx} (h : Parsed p x) : Parsed (grp p (grp p [42])) (.cat x (.rep x 0 (-1))) :=
 ⟨[.cat x (.rep x 0 (-1))], .one (l := [x, .rep x 0 (-1)]) (grp_seq (x := x) (.bare (grp_atom h _) (by rw [grp_nx]; decide)) (grp_seq (x := x) (grp_rep h .star (by decide)) (.done (by decide)))) (by decide), rfl⟩
theorem q_two : Quant [123, 50, 125] 2 2 [] := .braces (.same (by decide) (by decide) (by decide))
end Go.Proofs.YthhnmpkgleelfaaGreatDoor
namespace Go.Proofs.YthhnmpkgleelfaaGreatDoor
open Go.RowKit Go.Shelf
def strV (s : ByteArray) : Value := .string s
def orF (x y : List Bool) : List Bool := List.zipWith (· || ·) x y
theorem un_next : ∀ (l m : List Bool) (t : Nat), l.length = m.length → (idx t l = [] ∧ idx t m = [] ∧ idx t (orF l m) = []) ∨
  ∃ (d : Nat) (l' m' : List Bool) (bl bm : Bool), l'.length = m'.length ∧ idx t l = (if bl = true then (d : Int) :: idx (d + 1) l' else idx (d + 1) l') ∧ idx t m = (if bm = true then (d : Int) :: idx (d + 1) m' else idx (d + 1) m') ∧ idx t (orF l m) = (d : Int) :: idx (d + 1) (orF l' m') ∧ (bl || bm) = true
 | [], [], _, _ => .inl ⟨rfl, rfl, rfl⟩
 | [], _ :: _, _, h => by simp at h
 | _ :: _, [], _, h => by simp at h
 | x :: l, y :: m, t, h => by
  have hl : l.length = m.length := by simpa using h
  have ho : orF (x :: l) (y :: m) = (x || y) :: orF l m := rfl
  rw [ho]
  by_cases hxy : (x || y) = true
  ·refine .inr ⟨t, l, m, x, y, hl, rfl, rfl, ?_, hxy⟩
   rw [idx, if_pos hxy]
  ·have hx : x = false := by cases x <;> simp_all
   have hy : y = false := by cases y <;> simp_all
   subst hx hy
   rcases un_next l m (t + 1) hl with ⟨h1, h2, h3⟩ | ⟨d, l', m', bl, bm, h1, h2, h3, h4, h5⟩
   ·exact .inl ⟨by simpa [idx] using h1, by simpa [idx] using h2, by simpa [idx] using h3⟩
   ·exact .inr ⟨d, l', m', bl, bm, h1, by simpa [idx] using h2, by simpa [idx] using h3, by simpa [idx] using h4, h5⟩
theorem idx_head {k : Nat} {l : List Bool} {c : Int} {t : List Int} (h : idx k l = c :: t) : (k : Int) ≤ c := by
 have h1 : c ∈ idx k l := by rw [h]; simp
 obtain ⟨j, h2, -⟩ := (idx_mem l k c).1 h1
 omega
theorem drop_cases (a : List Int) (i : Nat) : (a.drop i = [] ∧ a.length ≤ i) ∨ ∃ c, a[i]? = some c ∧ a.drop i = c :: a.drop (i + 1) ∧ i < a.length := by
 by_cases h : i < a.length
 ·exact .inr ⟨a[i], List.getElem?_eq_getElem h, List.drop_eq_getElem_cons h, h⟩
 ·exact .inl ⟨List.drop_of_length_le (by omega), by omega⟩
def UnR (w : World) (a b r : List Int) (s5 s6 s7 : Value) (wr : World) : Prop := ∃ (i j t : Nat) (l m : List Bool) (out : List Int) (A : Option Addr) (q : Nat), i ≤ a.length ∧ j ≤ b.length ∧ s6 = .int .i64 i ∧ s7 = .int .i64 j ∧ s5 = .slice A out.length q ∧ l.length = m.length ∧ a.drop i = idx t l ∧ b.drop j = idx t m ∧ r = out ++ idx t (orF l m) ∧ out.length ≤ i + j ∧ Below w.heap.size w wr ∧ Ints wr w.heap.size (.slice A out.length q) out
theorem drop_cons {a X : List Int} {i : Nat} {d : Int} (h : a.drop i = d :: X) : a[i]? = some d ∧ a.drop (i + 1) = X ∧ i < a.length := by
 rcases drop_cases a i with ⟨h1, h2⟩ | ⟨c, h1, h2, h3⟩
 ·rw [h1] at h; cases h
 ·rw [h2] at h
  injection h with e1 e2
  exact ⟨by rw [h1, e1], e2, h3⟩
theorem int_snoc2 {w : World} {base : Nat} {A : Option Addr} {q n : Nat} {l : List Int} {c : Int} (h : w.ownsRow base 3 1 (.slice A (n + 1) q) (n + 1) (l.map intV ++ [intV c])) (hn : n = l.length := by rfl) : Ints w base (.slice A (l ++ [c]).length q) (l ++ [c]) := by
 subst hn
 unfold Ints
 rw [List.length_append, List.map_append]
 exact h
set_option maxHeartbeats 16000000 in
set_option maxRecDepth 100000 in
theorem union_any {w : World} {v u : Value} {za zb : List Bool} (hv : Sl w v ((idx 0 za).map intV)) (hu : Sl w u ((idx 0 zb).map intV)) (hl : za.length = zb.length) (hz : za.length ≤ 10000) : Calls Tryz.prog 31 #[v, u] w fun e w' => IntsP w (idx 0 (orF za zb)) e w' := by
 obtain ⟨r, hr⟩ : ∃ r, idx 0 (orF za zb) = r := ⟨_, rfl⟩
 have hal := idx_len za 0
 have hbl := idx_len zb 0
 have h0a : (idx 0 za).drop 0 = idx 0 za := rfl
 have h0b : (idx 0 zb).drop 0 = idx 0 zb := rfl
 have hr0 := hr.symm
 rw [hr]
 obtain ⟨-, A, c1, rfl, hc1, hA⟩ := hv
 obtain ⟨-, B, c2, rfl, hc2, hB⟩ := hu
 rw [List.length_map] at hc1 hc2 hA hB ⊢
 rw [List.length_map]
 obtain ⟨a, ha⟩ : ∃ a, idx 0 za = a := ⟨_, rfl⟩
 obtain ⟨b, hb⟩ : ∃ b, idx 0 zb = b := ⟨_, rfl⟩
 have H0 := Lib.hid (show UnR w a b r (.slice none 0 0) (.int .i64 0) (.int .i64 0) w from ⟨0, 0, 0, za, zb, [], none, 0, Nat.zero_le _, Nat.zero_le _, rfl, rfl, rfl, hl, by rw [← ha]; rfl, by rw [← hb]; rfl, hr0, Nat.zero_le _, Below.refl _ _, ⟨rfl, .inl ⟨rfl, rfl⟩⟩⟩)
 rw [ha] at hal hA hc1 ⊢
 rw [hb] at hbl hB hc2 ⊢
 have ha3 : a.length ≤ 10000 := by omega
 have hb3 : b.length ≤ 10000 := by omega
 have HA := Lib.hid hA
 have HB := Lib.hid hB
 clear hA hB hal hbl ha hb hr hr0 h0a h0b hl hz
 go_enter Tryz.func31, Tryz.ntmps31
 go_wp2_with fail
 go_loopw [5, 6, 7] (fun s5 s6 s7 wr => UnR w a b r s5 s6 s7 wr) (fun _ x y _ => (a.length - (intOf x).toNat) + (b.length - (intOf y).toNat))
 case atStart => exact H0.out
 case round =>
  clear H0
  obtain ⟨i, j, t, l, m, out, A5, q5, hi, hj, rfl, rfl, rfl, hlm, hda, hdb, hr, hol, hb, ho⟩ := hrel
  have Hb := Lib.hid hb
  have Ho := Lib.hid ho
  have hbs := hb.size
  have Hda := Lib.hid hda
  have Hdb := Lib.hid hdb
  have Hr := Lib.hid hr
  clear hb ho hda hdb hr
  rcases un_next l m t hlm with ⟨h1, h2, h3⟩ | ⟨d, l', m', bl, bm, hlm', h2, h3, ho2, hbb⟩
  ·have hia : i = a.length := by
    rcases drop_cases a i with ⟨_, h⟩ | ⟨c, _, h, _⟩
    ·omega
    ·rw [Hda.out, h1] at h; cases h
   have hjb : j = b.length := by
    rcases drop_cases b j with ⟨_, h⟩ | ⟨c, _, h, _⟩
    ·omega
    ·rw [Hdb.out, h2] at h; cases h
   have hr2 : r = out := by rw [Hr.out, h3, List.append_nil]
   subst hia hjb hr2
   clear h1 h2 h3
   go_wp2_with fail
   go_ret
   exact ⟨A5, q5, rfl, Hb.out, Ho.out⟩
  ·have hda := Hda.out.trans h2
   have hdb := Hdb.out.trans h3
   clear h2 h3
   have Ho2 := Lib.hid ho2
   clear ho2
   cases bl with
   | true =>
    rw [if_pos rfl] at hda
    obtain ⟨hga, hna, hila⟩ := drop_cons hda
    have hii : (i : Int) < (a.length : Int) := by omega
    have hie : ((i : Int) == (a.length : Int)) = false := by simp; omega
    have Hna := Lib.hid hna
    clear hna hda
    obtain ⟨ga, oa, rfl, hca⟩ := HA.out (by omega)
    have ca := cell_later Hb.out (hca i (intV d) (by rw [List.getElem?_map, hga]; rfl))
    unfold intV at ca
    clear hca
    clear hga
    cases bm with
    | true =>
     rw [if_pos rfl] at hdb
     obtain ⟨hgb, hnb, hjlb⟩ := drop_cons hdb
     have hjj : (j : Int) < (b.length : Int) := by omega
     have hje : ((j : Int) == (b.length : Int)) = false := by simp; omega
     have Hnb := Lib.hid hnb
     obtain ⟨gb, ob, rfl, hcb⟩ := HB.out (by omega)
     have cb := cell_later Hb.out (hcb j (intV d) (by rw [List.getElem?_map, hgb]; rfl))
     unfold intV at cb
     clear hcb
     clear hdb hnb hgb hbb
     go_wp2_with fail
     go_quiet (fail)
     generalize hW : World.drewN wr _ = w1
     have Hbw1 := Lib.hid (show Below w.heap.size w w1 by rw [← hW]; exact blw_drewN Hb.out _)
     have How1 := Lib.hid (show Ints w1 w.heap.size (.slice A5 out.length q5) out by rw [← hW]; exact Ho.out)
     have caw1 : w1.cell? ⟨ga, oa + i, none⟩ = wr.cell? ⟨ga, oa + i, none⟩ := by rw [← hW]; rfl
     rw [ca] at caw1
     have cbw1 : w1.cell? ⟨gb, ob + j, none⟩ = wr.cell? ⟨gb, ob + j, none⟩ := by rw [← hW]; rfl
     rw [cb] at cbw1
     clear hW ca cb
     go_wp2_with fail
     go_quiet (fail)
     generalize hW : World.drewN w1 _ = w2
     have Hbw2 := Lib.hid (show Below w.heap.size w w2 by rw [← hW]; exact blw_drewN Hbw1.out _)
     have How2 := Lib.hid (show Ints w2 w.heap.size (.slice A5 out.length q5) out by rw [← hW]; exact How1.out)
     have caw2 : w2.cell? ⟨ga, oa + i, none⟩ = w1.cell? ⟨ga, oa + i, none⟩ := by rw [← hW]; rfl
     rw [caw1] at caw2
     have cbw2 : w2.cell? ⟨gb, ob + j, none⟩ = w1.cell? ⟨gb, ob + j, none⟩ := by rw [← hW]; rfl
     rw [cbw1] at cbw2
     clear hW caw1 cbw1
     have hbs2 := Hbw2.out.size
     have Hoa := Lib.hid (ownsRow_below How2.out (alloc_below w2 (.cells #[.int .i64 d] 3)) (Nat.le_refl _))
     have Hcn := Lib.hid (cells_new w2 [intV d] 3)
     have Hba := Lib.hid (Hbw2.out.alloc hbs2 (.cells #[.int .i64 d] 3))
     go_wp2_with (at_builtin; refine wpList_append_k elInt rfl (.tmp 18) (.tmp 23) rfl w.heap.size (.slice A5 out.length q5) out.length w2.heap.size 1 1 (out.map intV) [intV d] (by simp [Act.eval]) Hoa.out (by simp [Act.eval]) rfl Hcn.out (by simp [intV, Value.oneCell']) (by unfold maxLen; omega) (by omega) (by simp; omega) ?_; intro v' w5 p1 p2 p3; have Hp := Lib.hid p1; have Hg := Lib.hid p2; clear p1 p2 p3)
     obtain ⟨A6, q6, rfl, -, -, -⟩ := ownsRow_slice Hp.out
     have hlen : (out ++ [(d : Int)]).length = out.length + 1 := by simp
     exact ⟨⟨i + 1, j + 1, d + 1, l', m', out ++ [(d : Int)], A6, q6, by omega, by omega, by go_num, by go_num, by rw [hlen], hlm', Hna.out, Hnb.out, by rw [Hr.out, Ho2.out, List.append_assoc]; rfl, by rw [hlen]; omega, own_below Hba.out Hoa.out Hba.out.size Hg.out, int_snoc2 Hp.out⟩, by simp [intOf]; omega⟩
    | false =>
     rw [if_neg (by simp)] at hdb
     have Hdb2 := Lib.hid hdb
     rcases drop_cases b j with ⟨_, hjl⟩ | ⟨e, hgb, hnb, hjlb⟩
     ·have hjb : j = b.length := by omega
      subst hjb
      clear hdb hbb hj hjl
      go_wp2_with fail
      go_quiet (fail)
      generalize hW : World.drewN wr _ = w1
      have Hbw1 := Lib.hid (show Below w.heap.size w w1 by rw [← hW]; exact blw_drewN Hb.out _)
      have How1 := Lib.hid (show Ints w1 w.heap.size (.slice A5 out.length q5) out by rw [← hW]; exact Ho.out)
      have caw1 : w1.cell? ⟨ga, oa + i, none⟩ = wr.cell? ⟨ga, oa + i, none⟩ := by rw [← hW]; rfl
      rw [ca] at caw1
      clear hW ca
      have hbs2 := Hbw1.out.size
      have Hoa := Lib.hid (ownsRow_below How1.out (alloc_below w1 (.cells #[.int .i64 d] 3)) (Nat.le_refl _))
      have Hcn := Lib.hid (cells_new w1 [intV d] 3)
      have Hba := Lib.hid (Hbw1.out.alloc hbs2 (.cells #[.int .i64 d] 3))
      go_wp2_with (at_builtin; refine wpList_append_k elInt rfl (.tmp 51) (.tmp 56) rfl w.heap.size (.slice A5 out.length q5) out.length w1.heap.size 1 1 (out.map intV) [intV d] (by simp [Act.eval]) Hoa.out (by simp [Act.eval]) rfl Hcn.out (by simp [intV, Value.oneCell']) (by unfold maxLen; omega) (by omega) (by simp; omega) ?_; intro v' w5 p1 p2 p3; have Hp := Lib.hid p1; have Hg := Lib.hid p2; clear p1 p2 p3)
      obtain ⟨A6, q6, rfl, -, -, -⟩ := ownsRow_slice Hp.out
      have hlen : (out ++ [(d : Int)]).length = out.length + 1 := by simp
      exact ⟨⟨i + 1, b.length, d + 1, l', m', out ++ [(d : Int)], A6, q6, by omega, by omega, by go_num, by go_num, by rw [hlen], hlm', Hna.out, Hdb2.out, by rw [Hr.out, Ho2.out, List.append_assoc]; rfl, by rw [hlen]; omega, own_below Hba.out Hoa.out Hba.out.size Hg.out, int_snoc2 Hp.out⟩, by simp [intOf]; omega⟩
     ·have hde : (d : Int) < e := by
       rw [hnb] at hdb
       have := idx_head hdb.symm
       push_cast at this
       omega
      have hjj : (j : Int) < (b.length : Int) := by omega
      have hje : ((j : Int) == (b.length : Int)) = false := by simp; omega
      obtain ⟨gb, ob, rfl, hcb⟩ := HB.out (by omega)
      have cb := cell_later Hb.out (hcb j (intV e) (by rw [List.getElem?_map, hgb]; rfl))
      unfold intV at cb
      clear hcb
      clear hdb hnb hgb hbb
      go_wp2_with fail
      go_quiet (fail)
      generalize hW : World.drewN wr _ = w1
      have Hbw1 := Lib.hid (show Below w.heap.size w w1 by rw [← hW]; exact blw_drewN Hb.out _)
      have How1 := Lib.hid (show Ints w1 w.heap.size (.slice A5 out.length q5) out by rw [← hW]; exact Ho.out)
      have caw1 : w1.cell? ⟨ga, oa + i, none⟩ = wr.cell? ⟨ga, oa + i, none⟩ := by rw [← hW]; rfl
      rw [ca] at caw1
      have cbw1 : w1.cell? ⟨gb, ob + j, none⟩ = wr.cell? ⟨gb, ob + j, none⟩ := by rw [← hW]; rfl
      rw [cb] at cbw1
      clear hW ca cb
      have hbs2 := Hbw1.out.size
      have Hoa := Lib.hid (ownsRow_below How1.out (alloc_below w1 (.cells #[.int .i64 d] 3)) (Nat.le_refl _))
      have Hcn := Lib.hid (cells_new w1 [intV d] 3)
      have Hba := Lib.hid (Hbw1.out.alloc hbs2 (.cells #[.int .i64 d] 3))
      go_wp2_with (at_builtin; refine wpList_append_k elInt rfl (.tmp 51) (.tmp 56) rfl w.heap.size (.slice A5 out.length q5) out.length w1.heap.size 1 1 (out.map intV) [intV d] (by simp [Act.eval]) Hoa.out (by simp [Act.eval]) rfl Hcn.out (by simp [intV, Value.oneCell']) (by unfold maxLen; omega) (by omega) (by simp; omega) ?_; intro v' w5 p1 p2 p3; have Hp := Lib.hid p1; have Hg := Lib.hid p2; clear p1 p2 p3)
      obtain ⟨A6, q6, rfl, -, -, -⟩ := ownsRow_slice Hp.out
      have hlen : (out ++ [(d : Int)]).length = out.length + 1 := by simp
      exact ⟨⟨i + 1, j, d + 1, l', m', out ++ [(d : Int)], A6, q6, by omega, by omega, by go_num, by go_num, by rw [hlen], hlm', Hna.out, Hdb2.out, by rw [Hr.out, Ho2.out, List.append_assoc]; rfl, by rw [hlen]; omega, own_below Hba.out Hoa.out Hba.out.size Hg.out, int_snoc2 Hp.out⟩, by simp [intOf]; omega⟩
   | false =>
    rw [if_neg (by simp)] at hda
    have hbm : bm = true := by simpa using hbb
    subst hbm
    rw [if_pos rfl] at hdb
    obtain ⟨hgb, hnb, hjlb⟩ := drop_cons hdb
    have hjj : (j : Int) < (b.length : Int) := by omega
    have hje : ((j : Int) == (b.length : Int)) = false := by simp; omega
    have Hnb := Lib.hid hnb
    have Hda2 := Lib.hid hda
    obtain ⟨gb, ob, rfl, hcb⟩ := HB.out (by omega)
    have cb := cell_later Hb.out (hcb j (intV d) (by rw [List.getElem?_map, hgb]; rfl))
    unfold intV at cb
    clear hcb
    clear hnb hdb hgb
    rcases drop_cases a i with ⟨_, hil⟩ | ⟨e, hga, hna, hila⟩
    ·have hia : i = a.length := by omega
     subst hia
     clear hda hbb hi hil
     go_wp2_with fail
     go_quiet (fail)
     generalize hW : World.drewN wr _ = w1
     have Hbw1 := Lib.hid (show Below w.heap.size w w1 by rw [← hW]; exact blw_drewN Hb.out _)
     have How1 := Lib.hid (show Ints w1 w.heap.size (.slice A5 out.length q5) out by rw [← hW]; exact Ho.out)
     have cbw1 : w1.cell? ⟨gb, ob + j, none⟩ = wr.cell? ⟨gb, ob + j, none⟩ := by rw [← hW]; rfl
     rw [cb] at cbw1
     clear hW cb
     go_wp2_with fail
     go_quiet (fail)
     generalize hW : World.drewN w1 _ = w2
     have Hbw2 := Lib.hid (show Below w.heap.size w w2 by rw [← hW]; exact blw_drewN Hbw1.out _)
     have How2 := Lib.hid (show Ints w2 w.heap.size (.slice A5 out.length q5) out by rw [← hW]; exact How1.out)
     have cbw2 : w2.cell? ⟨gb, ob + j, none⟩ = w1.cell? ⟨gb, ob + j, none⟩ := by rw [← hW]; rfl
     rw [cbw1] at cbw2
     clear hW cbw1
     have hbs2 := Hbw2.out.size
     have Hoa := Lib.hid (ownsRow_below How2.out (alloc_below w2 (.cells #[.int .i64 d] 3)) (Nat.le_refl _))
     have Hcn := Lib.hid (cells_new w2 [intV d] 3)
     have Hba := Lib.hid (Hbw2.out.alloc hbs2 (.cells #[.int .i64 d] 3))
     go_wp2_with (at_builtin; refine wpList_append_k elInt rfl (.tmp 76) (.tmp 81) rfl w.heap.size (.slice A5 out.length q5) out.length w2.heap.size 1 1 (out.map intV) [intV d] (by simp [Act.eval]) Hoa.out (by simp [Act.eval]) rfl Hcn.out (by simp [intV, Value.oneCell']) (by unfold maxLen; omega) (by omega) (by simp; omega) ?_; intro v' w5 p1 p2 p3; have Hp := Lib.hid p1; have Hg := Lib.hid p2; clear p1 p2 p3)
     obtain ⟨A6, q6, rfl, -, -, -⟩ := ownsRow_slice Hp.out
     have hlen : (out ++ [(d : Int)]).length = out.length + 1 := by simp
     exact ⟨⟨a.length, j + 1, d + 1, l', m', out ++ [(d : Int)], A6, q6, by omega, by omega, by go_num, by go_num, by rw [hlen], hlm', Hda2.out, Hnb.out, by rw [Hr.out, Ho2.out, List.append_assoc]; rfl, by rw [hlen]; omega, own_below Hba.out Hoa.out Hba.out.size Hg.out, int_snoc2 Hp.out⟩, by simp [intOf]; omega⟩
    ·have hde : (d : Int) < e := by
      rw [hna] at hda
      have := idx_head hda.symm
      push_cast at this
      omega
     have hde2 : ¬ e < (d : Int) := by omega
     have hii : (i : Int) < (a.length : Int) := by omega
     have hie : ((i : Int) == (a.length : Int)) = false := by simp; omega
     obtain ⟨ga, oa, rfl, hca⟩ := HA.out (by omega)
     have ca := cell_later Hb.out (hca i (intV e) (by rw [List.getElem?_map, hga]; rfl))
     unfold intV at ca
     clear hca
     clear hda hna hga hbb
     go_wp2_with fail
     go_quiet (fail)
     generalize hW : World.drewN wr _ = w1
     have Hbw1 := Lib.hid (show Below w.heap.size w w1 by rw [← hW]; exact blw_drewN Hb.out _)
     have How1 := Lib.hid (show Ints w1 w.heap.size (.slice A5 out.length q5) out by rw [← hW]; exact Ho.out)
     have caw1 : w1.cell? ⟨ga, oa + i, none⟩ = wr.cell? ⟨ga, oa + i, none⟩ := by rw [← hW]; rfl
     rw [ca] at caw1
     have cbw1 : w1.cell? ⟨gb, ob + j, none⟩ = wr.cell? ⟨gb, ob + j, none⟩ := by rw [← hW]; rfl
     rw [cb] at cbw1
     clear hW ca cb
     go_wp2_with fail
     go_quiet (fail)
     generalize hW : World.drewN w1 _ = w2
     have Hbw2 := Lib.hid (show Below w.heap.size w w2 by rw [← hW]; exact blw_drewN Hbw1.out _)
     have How2 := Lib.hid (show Ints w2 w.heap.size (.slice A5 out.length q5) out by rw [← hW]; exact How1.out)
     have caw2 : w2.cell? ⟨ga, oa + i, none⟩ = w1.cell? ⟨ga, oa + i, none⟩ := by rw [← hW]; rfl
     rw [caw1] at caw2
     have cbw2 : w2.cell? ⟨gb, ob + j, none⟩ = w1.cell? ⟨gb, ob + j, none⟩ := by rw [← hW]; rfl
     rw [cbw1] at cbw2
     clear hW caw1 cbw1
     have hbs2 := Hbw2.out.size
     have Hoa := Lib.hid (ownsRow_below How2.out (alloc_below w2 (.cells #[.int .i64 d] 3)) (Nat.le_refl _))
     have Hcn := Lib.hid (cells_new w2 [intV d] 3)
     have Hba := Lib.hid (Hbw2.out.alloc hbs2 (.cells #[.int .i64 d] 3))
     go_wp2_with (at_builtin; refine wpList_append_k elInt rfl (.tmp 76) (.tmp 81) rfl w.heap.size (.slice A5 out.length q5) out.length w2.heap.size 1 1 (out.map intV) [intV d] (by simp [Act.eval]) Hoa.out (by simp [Act.eval]) rfl Hcn.out (by simp [intV, Value.oneCell']) (by unfold maxLen; omega) (by omega) (by simp; omega) ?_; intro v' w5 p1 p2 p3; have Hp := Lib.hid p1; have Hg := Lib.hid p2; clear p1 p2 p3)
     obtain ⟨A6, q6, rfl, -, -, -⟩ := ownsRow_slice Hp.out
     have hlen : (out ++ [(d : Int)]).length = out.length + 1 := by simp
     exact ⟨⟨i, j + 1, d + 1, l', m', out ++ [(d : Int)], A6, q6, by omega, by omega, by go_num, by go_num, by rw [hlen], hlm', Hda2.out, Hnb.out, by rw [Hr.out, Ho2.out, List.append_assoc]; rfl, by rw [hlen]; omega, own_below Hba.out Hoa.out Hba.out.size Hg.out, int_snoc2 Hp.out⟩, by simp [intOf]; omega⟩
end Go.Proofs.YthhnmpkgleelfaaGreatDoor
namespace Go.Proofs.YthhnmpkgleelfaaGreatDoor
theorem ok_ends {s : List Int} {r t : Rx} {y z : List Bool} (hr : r.ok) (ht : t.ok) (h : EndsAt (mcS r) (mcT r) s true y) (k : EndsAt (mcS t) (mcT t) s true z) (he : ∀ j, j ≤ s.length → ((∃ i, i ≤ s.length ∧ Mt s r i j) ↔ ∃ i, i ≤ s.length ∧ Mt s t i j)) : y = z := by
 refine bools_ext (by rw [h.1, k.1]) (fun j => ?_)
 by_cases hj : j ≤ s.length
 ·rw [h.2 j, k.2 j, rch_mt hr, rch_mt ht, he j hj]
 ·rw [List.getElem?_eq_none (by rw [h.1]; omega), List.getElem?_eq_none (by rw [k.1]; omega)]
theorem Pw.snoc1 {R : Nat → Nat → Prop} : ∀ {m i j : Nat}, Pw R (m + 1) i j → ∃ k, R i k ∧ Pw R m k j
 | 0, i, j, ⟨k, h1, h2⟩ => ⟨j, by have e : i = k := h1; rw [e]; exact h2, rfl⟩
 | m + 1, i, j, ⟨k, h1, h2⟩ => by
  obtain ⟨l, h3, h4⟩ := Pw.snoc1 h1
  exact ⟨l, h3, k, h4, h2⟩
theorem Pw.cons1 {R : Nat → Nat → Prop} : ∀ {m i k j : Nat}, R i k → Pw R m k j → Pw R (m + 1) i j
 | 0, i, k, j, h, h2 => ⟨i, rfl, by have e : k = j := h2; rw [← e]; exact h⟩
 | m + 1, i, k, j, h, ⟨l, h2, h3⟩ => ⟨l, Pw.cons1 h h2, h3⟩
theorem alt_ends {s : List Int} {x y : Rx} {z za zb : List Bool} (hr : (Rx.alt x y).ok) (h : EndsAt (mcS (.alt x y)) (mcT (.alt x y)) s true z) (ha : EndsAt (mcS x) (mcT x) s true za) (hb : EndsAt (mcS y) (mcT y) s true zb) : z = orF za zb := by
 refine bools_ext (by unfold orF; rw [h.1, List.length_zipWith, ha.1, hb.1]; omega) (fun j => ?_)
 rw [show orF za zb = orZ za zb from rfl, orZ_get za zb (by rw [ha.1, hb.1]), h.2 j, ha.2 j, hb.2 j, rch_mt hr, rch_mt hr.1, rch_mt hr.2]
 constructor
 ·rintro ⟨i, hi, hm | hm⟩
  ·exact .inl ⟨i, hi, hm⟩
  ·exact .inr ⟨i, hi, hm⟩
 ·rintro (⟨i, hi, hm⟩ | ⟨i, hi, hm⟩)
  ·exact ⟨i, hi, .inl hm⟩
  ·exact ⟨i, hi, .inr hm⟩
theorem zero_ends {s : List Int} {x : Rx} {mx : Int} {z : List Bool} (hr : (Rx.rep x 0 mx).ok) (hm : mx < 0 ∨ 0 ≤ mx) (h : EndsAt (mcS (.rep x 0 mx)) (mcT (.rep x 0 mx)) s true z) : z = List.replicate (s.length + 1) true := by
 refine bools_ext (by rw [h.1, List.length_replicate]) (fun j => ?_)
 rw [h.2 j, rch_mt hr, List.getElem?_replicate]
 constructor
 ·rintro ⟨i, hi, hmm⟩
  have hz : j < z.length := (List.getElem?_eq_some_iff.1 ((h.2 j).2 ((rch_mt hr j).2 ⟨i, hi, hmm⟩))).1
  rw [h.1] at hz
  rw [if_pos hz]
 ·intro e
  split at e
  ·rename_i hj
   exact ⟨j, by omega, 0, by decide, by rcases hm with hm | hm; exact .inl hm; exact .inr (by simpa using hm), rfl⟩
  ·cases e
theorem two_mt {s : List Int} {x : Rx} {i j : Nat} : Mt s (.rep x 2 2) i j ↔ Mt s (.cat x x) i j := by
 constructor
 ·rintro ⟨m, h1, h2, h3⟩
  have e : m = 2 := by omega
  subst e
  obtain ⟨k, ⟨l, h4, h5⟩, h6⟩ := h3
  have e : i = l := h4
  exact ⟨k, by rw [e]; exact h5, h6⟩
 ·rintro ⟨k, h1, h2⟩
  exact ⟨2, by omega, .inr (by omega), k, ⟨i, rfl, h1⟩, h2⟩
theorem plus_mt {s : List Int} {x : Rx} {i j : Nat} : Mt s (.rep x 1 (-1)) i j ↔ Mt s (.cat x (.rep x 0 (-1))) i j := by
 constructor
 ·rintro ⟨m, h1, -, h3⟩
  obtain ⟨n, rfl⟩ : ∃ n, m = n + 1 := ⟨m - 1, by omega⟩
  obtain ⟨k, h4, h5⟩ := Pw.snoc1 h3
  exact ⟨k, h4, n, by omega, .inl (by omega), h5⟩
 ·rintro ⟨k, h1, m, -, -, h2⟩
  exact ⟨m + 1, by omega, .inl (by omega), Pw.cons1 h1 h2⟩
theorem plus_one {s : List Int} {x : Rx} {j : Nat} (hj : j ≤ s.length) : (∃ i, i ≤ s.length ∧ Mt s (.rep x 1 (-1)) i j) ↔ ∃ i, i ≤ s.length ∧ Mt s x i j := by
 constructor
 ·rintro ⟨i, hi, m, h1, -, h3⟩
  obtain ⟨n, rfl⟩ : ∃ n, m = n + 1 := ⟨m - 1, by omega⟩
  obtain ⟨k, -, h5⟩ := h3
  have := Mt.le x k j h5
  exact ⟨k, by omega, h5⟩
 ·rintro ⟨i, hi, hm⟩
  exact ⟨i, hi, 1, by omega, .inl (by omega), i, rfl, hm⟩
theorem good_is {s : ByteArray} {r t : Rx} (h : Good s r) (hp : Parsed s.data.toList t) : Good s t := by
 rw [← h.2.1.uniq hp]; exact h
end Go.Proofs.YthhnmpkgleelfaaGreatDoor
