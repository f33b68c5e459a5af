import Derived.Test.YthhnmpkgleelfaaGreatDoorK49
import Derived.Test.YthhnmpkgleelfaaGreatDoorK9
set_option linter.unusedVariables false
set_option linter.unusedSimpArgs false
namespace Go.Proofs.YthhnmpkgleelfaaGreatDoor
open Go.RowKit Go.Shelf
theorem elNode : ElemK 156 71 .nilIface 1 16 := ⟨Tryz.underlying156, by kernel_rfl, rfl, by decide⟩
def NdR (w : World) (base : Nat) (v : Value) (l : List Rx) : Prop := w.ownsRow base 71 1 v l.length (l.map nodeV)
def JoinC (f : Nat) (op : Rx → Rx → Rx) : Prop := ∀ (a b : Rx) (w : World), Calls Tryz.prog f #[nodeV a, nodeV b] w fun e w' => e = .returned (nodeV (op a b)) ∧ w' = w
theorem join_cat : JoinC 104 .cat := by
 intro a b w
 obtain ⟨ta, xa, hva⟩ := nodeV_iface a
 obtain ⟨tb, xb, hvb⟩ := nodeV_iface b
 have hv : nodeV (.cat a b) = .iface 172 (.agg #[nodeV a, nodeV b]) := rfl
 rw [hv, hva, hvb]
 clear hva hvb hv
 go_enter Tryz.func104, Tryz.ntmps104
 go_wp2_with fail
 go_ret
 exact ⟨rfl, rfl⟩
theorem join_alt : JoinC 92 .alt := by
 intro a b w
 obtain ⟨ta, xa, hva⟩ := nodeV_iface a
 obtain ⟨tb, xb, hvb⟩ := nodeV_iface b
 have hv : nodeV (.alt a b) = .iface 159 (.agg #[nodeV a, nodeV b]) := rfl
 rw [hv, hva, hvb]
 clear hva hvb hv
 go_enter Tryz.func92, Tryz.ntmps92
 go_wp2_with fail
 go_ret
 exact ⟨rfl, rfl⟩
def RtRel (op : Rx → Rx → Rx) (l : List Rx) (w : World) (m : Nat) (s5 s6 : Value) (wr : World) : Prop := ∃ k : Nat, k = m ∧ k < l.length ∧ s6 = .int .i64 ((k : Int) - 1) ∧ s5 = nodeV (joinR op (l.drop k)) ∧ w = wr
theorem drop_last {l : List Rx} {n : Nat} {r : Rx} (hn : l.length = n + 1) (hr : l[n]? = some r) (op : Rx → Rx → Rx) : joinR op (l.drop n) = r := by
 have h1 : n < l.length := by omega
 rw [List.getElem?_eq_getElem h1] at hr
 rw [List.drop_eq_getElem_cons h1, Option.some.inj hr, show n + 1 = l.length by omega, List.drop_length]
 rfl
theorem drop_step {l : List Rx} {j : Nat} {r : Rx} (hj : j + 1 < l.length) (hr : l[j]? = some r) (op : Rx → Rx → Rx) : joinR op (l.drop j) = op r (joinR op (l.drop (j + 1))) := by
 have h1 : j < l.length := by omega
 rw [List.getElem?_eq_getElem h1] at hr
 rw [List.drop_eq_getElem_cons h1, Option.some.inj hr, joinR_cons]
 intro e
 have := congrArg List.length e
 simp at this
 omega
set_option maxHeartbeats 4000000 in
set_option maxRecDepth 100000 in
theorem right_cat {w : World} {g q : Nat} {l : List Rx} (h : ∀ (i : Nat) (r : Rx), l[i]? = some r → w.cell? ⟨g, i, none⟩ = some (nodeV r)) (h0 : 0 < l.length) (hl : l.length ≤ 100000) : Calls Tryz.prog 91 #[.slice (some ⟨g, 0, none⟩) l.length q, .func (.func 104) #[] #[]] w fun e w' => e = .returned (nodeV (joinR .cat l)) ∧ w' = w := by
 have H := Lib.hid h
 clear h
 obtain ⟨n, hn⟩ : ∃ n, l.length = n + 1 := ⟨l.length - 1, by omega⟩
 rw [hn]
 obtain ⟨r, hr⟩ : ∃ r, l[n]? = some r := ⟨_, List.getElem?_eq_getElem (by omega)⟩
 have c0 := H.out _ _ hr
 have Hd := Lib.hid (drop_last hn hr .cat)
 clear hr
 obtain ⟨tr, xr, hv⟩ := nodeV_iface r
 rw [hv] at c0
 have Hv := Lib.hid hv
 clear hv
 go_enter Tryz.func91, Tryz.ntmps91
 go_wp2_with fail
 go_loopg [5, 6] n (fun m s5 s6 wr => RtRel .cat l w m s5 s6 wr)
 case atStart => exact ⟨n, rfl, by omega, by go_num, by rw [Hd.out]; exact Hv.out.symm, rfl⟩
 case round =>
  obtain ⟨m, rfl, hm, rfl, hs5, rfl⟩ := hrel
  obtain ⟨t5, x5, hv5⟩ := nodeV_iface (joinR .cat (l.drop m))
  rw [hv5] at hs5
  subst hs5
  have Hv5 := Lib.hid hv5
  clear hv5
  cases m with
  | zero =>
   go_wp2_with fail
   go_ret
   have h5 := Hv5.out
   rw [List.drop_zero] at h5
   exact ⟨by rw [h5]; rfl, rfl⟩
  | succ j =>
   obtain ⟨y, hy⟩ : ∃ y, l[j]? = some y := ⟨_, List.getElem?_eq_getElem (by omega)⟩
   have c1 := H.out _ _ hy
   have Hs := Lib.hid (drop_step hm hy .cat)
   obtain ⟨ty, xy, hvy⟩ := nodeV_iface y
   rw [hvy] at c1
   have Hj := Lib.hid (join_cat y (joinR .cat (l.drop (j + 1))) w)
   rw [hvy, Hv5.out, ← Hs.out] at Hj
   rw [show (((j + 1 : Nat) : Int) - 1) = (j : Int) by omega]
   clear hy hvy
   go_wp2_with fail
   (with_reducible refine Hj.out.mono ?_)
   rintro e w2 ⟨rfl, rfl⟩
   obtain ⟨tz, xz, hvz⟩ := nodeV_iface (joinR .cat (l.drop j))
   have Hvz := Lib.hid hvz
   rw [hvz]
   clear hvz
   go_wp2_with fail
   go_roundg j
   case measure => omega
   case rel => exact ⟨j, rfl, by omega, by go_num, Hvz.out.symm, rfl⟩
set_option maxHeartbeats 4000000 in
set_option maxRecDepth 100000 in
theorem right_alt {w : World} {g q : Nat} {l : List Rx} (h : ∀ (i : Nat) (r : Rx), l[i]? = some r → w.cell? ⟨g, i, none⟩ = some (nodeV r)) (h0 : 0 < l.length) (hl : l.length ≤ 100000) : Calls Tryz.prog 91 #[.slice (some ⟨g, 0, none⟩) l.length q, .func (.func 92) #[] #[]] w fun e w' => e = .returned (nodeV (joinR .alt l)) ∧ w' = w := by
 have H := Lib.hid h
 clear h
 obtain ⟨n, hn⟩ : ∃ n, l.length = n + 1 := ⟨l.length - 1, by omega⟩
 rw [hn]
 obtain ⟨r, hr⟩ : ∃ r, l[n]? = some r := ⟨_, List.getElem?_eq_getElem (by omega)⟩
 have c0 := H.out _ _ hr
 have Hd := Lib.hid (drop_last hn hr .alt)
 clear hr
 obtain ⟨tr, xr, hv⟩ := nodeV_iface r
 rw [hv] at c0
 have Hv := Lib.hid hv
 clear hv
 go_enter Tryz.func91, Tryz.ntmps91
 go_wp2_with fail
 go_loopg [5, 6] n (fun m s5 s6 wr => RtRel .alt l w m s5 s6 wr)
 case atStart => exact ⟨n, rfl, by omega, by go_num, by rw [Hd.out]; exact Hv.out.symm, rfl⟩
 case round =>
  obtain ⟨m, rfl, hm, rfl, hs5, rfl⟩ := hrel
  obtain ⟨t5, x5, hv5⟩ := nodeV_iface (joinR .alt (l.drop m))
  rw [hv5] at hs5
  subst hs5
  have Hv5 := Lib.hid hv5
  clear hv5
  cases m with
  | zero =>
   go_wp2_with fail
   go_ret
   have h5 := Hv5.out
   rw [List.drop_zero] at h5
   exact ⟨by rw [h5]; rfl, rfl⟩
  | succ j =>
   obtain ⟨y, hy⟩ : ∃ y, l[j]? = some y := ⟨_, List.getElem?_eq_getElem (by omega)⟩
   have c1 := H.out _ _ hy
   have Hs := Lib.hid (drop_step hm hy .alt)
   obtain ⟨ty, xy, hvy⟩ := nodeV_iface y
   rw [hvy] at c1
   have Hj := Lib.hid (join_alt y (joinR .alt (l.drop (j + 1))) w)
   rw [hvy, Hv5.out, ← Hs.out] at Hj
   rw [show (((j + 1 : Nat) : Int) - 1) = (j : Int) by omega]
   clear hy hvy
   go_wp2_with fail
   (with_reducible refine Hj.out.mono ?_)
   rintro e w2 ⟨rfl, rfl⟩
   obtain ⟨tz, xz, hvz⟩ := nodeV_iface (joinR .alt (l.drop j))
   have Hvz := Lib.hid hvz
   rw [hvz]
   clear hvz
   go_wp2_with fail
   go_roundg j
   case measure => omega
   case rel => exact ⟨j, rfl, by omega, by go_num, Hvz.out.symm, rfl⟩
def NoP (r : Rx) (s : ByteArray) (B g : Nat) (w : World) (t : List UInt8) (e : Ending) (w' : World) : Prop := e = .returned (nodeV r) ∧ PdP s B g w t w'
def AltOk (s : ByteArray) (B n : Nat) : Prop := ∀ (g : Nat) (w : World) (t ys : List UInt8) (l : List Rx), t.length < n → AltL t l ys → Pos s B g w t → Calls Tryz.prog 63 #[.pointer (some ⟨g, 0, none⟩)] w fun e w' => NoP (joinR .alt l) s B g w ys e w'
theorem SeqL.ends : ∀ {xs ys : List UInt8} {l : List Rx}, SeqL xs l ys → YthhnmpkgleelfaaGreatDoor.nx ys = -1 ∨ YthhnmpkgleelfaaGreatDoor.nx ys = 124 ∨ YthhnmpkgleelfaaGreatDoor.nx ys = 41
 | _, _, _, .done h => h
 | _, _, _, .more _ _ h2 => h2.ends
theorem AltL.ends : ∀ {xs ys : List UInt8} {l : List Rx}, AltL xs l ys → YthhnmpkgleelfaaGreatDoor.nx ys = -1 ∨ YthhnmpkgleelfaaGreatDoor.nx ys = 41
 | _, _, _, .one h h2 => by have := h.ends; omega
 | _, _, _, .more _ h2 => h2.ends
section
variable {s : ByteArray} {B g : Nat} {w : World} {t ys : List UInt8}
set_option maxHeartbeats 4000000 in
set_option maxRecDepth 100000 in
theorem atom_any1 (h : Pos s B g w (46 :: t)) : Calls Tryz.prog 113 #[.pointer (some ⟨g, 0, none⟩)] w fun e w' => NoP .any s B g w t e w' := by
 obtain ⟨kk, hkk, c1, -⟩ := row_back h
 have Hn := Lib.hid (qnextl 46 h (by decide) (by decide))
 clear h
 go_enter Tryz.func113, Tryz.ntmps113
 go_wp2_with fail
 (with_reducible refine Hn.out.mono ?_)
 rintro e w1 ⟨rfl, hp1⟩
 have Hp1 := Lib.hid hp1
 clear hp1 c1
 go_wp2_with fail
 go_ret
 exact ⟨rfl, Hp1.out⟩
set_option maxHeartbeats 4000000 in
set_option maxRecDepth 100000 in
theorem atom_beg1 (h : Pos s B g w (94 :: t)) : Calls Tryz.prog 113 #[.pointer (some ⟨g, 0, none⟩)] w fun e w' => NoP .beg s B g w t e w' := by
 obtain ⟨kk, hkk, c1, -⟩ := row_back h
 have Hn := Lib.hid (qnextl 94 h (by decide) (by decide))
 clear h
 go_enter Tryz.func113, Tryz.ntmps113
 go_wp2_with fail
 (with_reducible refine Hn.out.mono ?_)
 rintro e w1 ⟨rfl, hp1⟩
 have Hp1 := Lib.hid hp1
 clear hp1 c1
 go_wp2_with fail
 go_ret
 exact ⟨rfl, Hp1.out⟩
set_option maxHeartbeats 4000000 in
set_option maxRecDepth 100000 in
theorem atom_fin1 (h : Pos s B g w (36 :: t)) : Calls Tryz.prog 113 #[.pointer (some ⟨g, 0, none⟩)] w fun e w' => NoP .fin s B g w t e w' := by
 obtain ⟨kk, hkk, c1, -⟩ := row_back h
 have Hn := Lib.hid (qnextl 36 h (by decide) (by decide))
 clear h
 go_enter Tryz.func113, Tryz.ntmps113
 go_wp2_with fail
 (with_reducible refine Hn.out.mono ?_)
 rintro e w1 ⟨rfl, hp1⟩
 have Hp1 := Lib.hid hp1
 clear hp1 c1
 go_wp2_with fail
 go_ret
 exact ⟨rfl, Hp1.out⟩
set_option maxHeartbeats 4000000 in
set_option maxRecDepth 100000 in
theorem atom_group {l : List Rx} (h : Pos s B g w (40 :: t)) (h0 : nx t ≠ 63) (k : AltL t l (41 :: ys)) (ha : AltOk s B (t.length + 1)) : Calls Tryz.prog 113 #[.pointer (some ⟨g, 0, none⟩)] w fun e w' => NoP (joinR .alt l) s B g w ys e w' := by
 obtain ⟨kk, hkk, c1, -⟩ := row_back h
 have Hn := Lib.hid (qnextl 40 h (by decide) (by decide))
 clear h
 have Hq := Lib.hid (fun (w1 : World) (h : Pos s B g w1 t) => qisn h k.nx h0)
 have Ha := Lib.hid (fun (w1 : World) (h : Pos s B g w1 t) => ha g w1 t (41 :: ys) l (Nat.lt_succ_self _) k h)
 clear h0 k ha
 go_enter Tryz.func113, Tryz.ntmps113
 go_wp2_with fail
 (with_reducible refine Hn.out.mono ?_)
 rintro e w1 ⟨rfl, hp1⟩
 have Hp1 := Lib.hid hp1
 clear hp1 c1
 go_wp2_with fail
 (with_reducible refine (Hq.out w1 Hp1.out.pos).mono ?_)
 rintro e w2 ⟨rfl, hp2⟩
 have Hp2 := Lib.hid (Hp1.out.trans hp2)
 clear hp2
 go_wp2_with fail
 (with_reducible refine (Ha.out w2 Hp2.out.pos).mono ?_)
 rintro e w3 ⟨rfl, hp3⟩
 have Hp3 := Lib.hid (Hp2.out.trans hp3)
 clear hp3
 obtain ⟨tv, xv, hv⟩ := nodeV_iface (joinR .alt l)
 have Hv := Lib.hid hv
 rw [hv]
 clear hv
 go_wp2_with fail
 (with_reducible refine (qis Hp3.out.pos (by decide) (show _ = (41 : Int) by decide)).mono ?_)
 rintro e w4 ⟨rfl, hp4⟩
 have Hp4 := Lib.hid (Hp3.out.trans hp4)
 clear hp4
 go_wp2_with fail
 go_ret
 exact ⟨by rw [Hv.out]; rfl, Hp4.out⟩
set_option maxHeartbeats 4000000 in
set_option maxRecDepth 100000 in
theorem atom_group2 {l : List Rx} (h : Pos s B g w (40 :: 63 :: 58 :: t)) (k : AltL t l (41 :: ys)) (ha : AltOk s B (t.length + 1)) : Calls Tryz.prog 113 #[.pointer (some ⟨g, 0, none⟩)] w fun e w' => NoP (joinR .alt l) s B g w ys e w' := by
 obtain ⟨kk, hkk, c1, -⟩ := row_back h
 have Hn := Lib.hid (qnextl 40 h (by decide) (by decide))
 clear h
 have Ha := Lib.hid (fun (w1 : World) (h : Pos s B g w1 t) => ha g w1 t (41 :: ys) l (Nat.lt_succ_self _) k h)
 clear k ha
 go_enter Tryz.func113, Tryz.ntmps113
 go_wp2_with fail
 (with_reducible refine Hn.out.mono ?_)
 rintro e w1 ⟨rfl, hp1⟩
 have Hp1 := Lib.hid hp1
 clear hp1 c1
 go_wp2_with fail
 (with_reducible refine (qis Hp1.out.pos (by decide) (show _ = (63 : Int) by decide)).mono ?_)
 rintro e wa ⟨rfl, hpa⟩
 have Hpa := Lib.hid (Hp1.out.trans hpa)
 clear hpa
 go_wp2_with fail
 (with_reducible refine (qis Hpa.out.pos (by decide) (show _ = (58 : Int) by decide)).mono ?_)
 rintro e w2 ⟨rfl, hp2⟩
 have Hp2 := Lib.hid (Hpa.out.trans hp2)
 clear hp2
 go_wp2_with fail
 (with_reducible refine (Ha.out w2 Hp2.out.pos).mono ?_)
 rintro e w3 ⟨rfl, hp3⟩
 have Hp3 := Lib.hid (Hp2.out.trans hp3)
 clear hp3
 obtain ⟨tv, xv, hv⟩ := nodeV_iface (joinR .alt l)
 have Hv := Lib.hid hv
 rw [hv]
 clear hv
 go_wp2_with fail
 (with_reducible refine (qis Hp3.out.pos (by decide) (show _ = (41 : Int) by decide)).mono ?_)
 rintro e w4 ⟨rfl, hp4⟩
 have Hp4 := Lib.hid (Hp3.out.trans hp4)
 clear hp4
 go_wp2_with fail
 go_ret
 exact ⟨by rw [Hv.out]; rfl, Hp4.out⟩
set_option maxHeartbeats 4000000 in
set_option maxRecDepth 100000 in
theorem atom_cls {L : Spans} {cs : List Int} {but : Bool} {u : List UInt8} (h : Pos s B g w (91 :: u)) (hi : ∀ w1, Pos s B g w1 u → Calls Tryz.prog 90 #[.pointer (some ⟨g, 0, none⟩), .int .i32 94] w1 fun e w' => BoP but s B g w1 t e w') (ht : t.length ≤ 2000) (k : Items true t L ys) (hs : SetOf (butP L but) cs) : Calls Tryz.prog 113 #[.pointer (some ⟨g, 0, none⟩)] w fun e w' => NoP (.set cs) s B g w ys e w' := by
 obtain ⟨kk, hkk, c1, -⟩ := row_back h
 have Hn := Lib.hid (qnextl 91 h (by decide) (by decide))
 clear h
 have Hi := Lib.hid hi
 have K := Lib.hid k
 have Hs := Lib.hid hs
 clear hi k hs
 go_enter Tryz.func113, Tryz.ntmps113
 go_wp2_with fail
 (with_reducible refine Hn.out.mono ?_)
 rintro e w1 ⟨rfl, hp1⟩
 have Hp1 := Lib.hid hp1
 clear hp1 c1
 go_wp2_with fail
 (with_reducible refine (pclass_core (Hi.out w1 Hp1.out.pos) Hp1.out.pos.lt K.out ht).mono ?_)
 rintro e w2 ⟨cs', rfl, hcs, hp2⟩
 obtain rfl := hcs.uniq Hs.out
 have Hp2 := Lib.hid (Hp1.out.trans hp2)
 clear hp2 hcs
 go_wp2_with fail
 go_ret
 exact ⟨rfl, Hp2.out⟩
set_option maxHeartbeats 4000000 in
set_option maxRecDepth 100000 in
theorem atom_escS {L : Spans} {cs : List Int} (h : Pos s B g w (92 :: t)) (k : EscS t L ys) (hs : SetOf (inSp L) cs) : Calls Tryz.prog 113 #[.pointer (some ⟨g, 0, none⟩)] w fun e w' => NoP (.set cs) s B g w ys e w' := by
 obtain ⟨kk, hkk, c1, -⟩ := row_back h
 have Hn := Lib.hid (qnextl 92 h (by decide) (by decide))
 clear h
 have Hs := Lib.hid hs
 obtain ⟨S, bt, htu, hbS, hsS, hlS, -, hlet⟩ := letter_yes (s := s) (B := B) (g := g) k
 have Htu := Lib.hid htu
 have HbS := Lib.hid hbS
 have Hlet := Lib.hid hlet
 clear k hs htu hbS hsS hlet
 go_enter Tryz.func113, Tryz.ntmps113
 go_wp2_with fail
 (with_reducible refine Hn.out.mono ?_)
 rintro e w1 ⟨rfl, hp1⟩
 have Hp1 := Lib.hid hp1
 clear hp1 c1
 go_wp2_with fail
 (with_reducible refine (Hlet.out w1 Hp1.out.pos).mono ?_)
 rintro e w2 ⟨A2, q2, rfl, ho2, hp2⟩
 have Hp2 := Lib.hid (Hp1.out.trans hp2)
 have Hset := Lib.hid (prset_own (but := bt) ho2 HbS.out (by omega))
 clear hp2 ho2
 go_wp2_with fail
 (with_reducible refine Hset.out.mono ?_)
 rintro e w3 ⟨cs', rfl, hcs, hb3⟩
 obtain rfl := (hcs.wk (fun c hc => (Htu.out c ((isR_iff c).1 hc).1 ((isR_iff c).1 hc).2.1).symm)).uniq Hs.out
 have Hp3 := Lib.hid (Hp2.out.quiet hb3)
 clear hb3 hcs
 go_wp2_with fail
 go_ret
 exact ⟨rfl, Hp3.out⟩
set_option maxHeartbeats 4000000 in
set_option maxRecDepth 100000 in
theorem atom_escC {c : Int} (h : Pos s B g w (92 :: t)) (k : EscC t c ys) : Calls Tryz.prog 113 #[.pointer (some ⟨g, 0, none⟩)] w fun e w' => NoP (.chr c) s B g w ys e w' := by
 obtain ⟨kk, hkk, c1, -⟩ := row_back h
 have Hn := Lib.hid (qnextl 92 h (by decide) (by decide))
 clear h
 have Hl := Lib.hid (fun (w1 : World) (h : Pos s B g w1 t) => letter_no h (escc_nx k).1 (escc_nx k).2)
 have He := Lib.hid (fun (w1 : World) (h : Pos s B g w1 t) => escaped_any k h)
 clear k
 go_enter Tryz.func113, Tryz.ntmps113
 go_wp2_with fail
 (with_reducible refine Hn.out.mono ?_)
 rintro e w1 ⟨rfl, hp1⟩
 have Hp1 := Lib.hid hp1
 clear hp1 c1
 go_wp2_with fail
 (with_reducible refine (Hl.out w1 Hp1.out.pos).mono ?_)
 rintro e w2 ⟨rfl, hp2⟩
 have Hp2 := Lib.hid (Hp1.out.trans hp2)
 clear hp2
 go_wp2_with fail
 (with_reducible refine (He.out w2 Hp2.out.pos).mono ?_)
 rintro e w3 ⟨rfl, hp3⟩
 have Hp3 := Lib.hid (Hp2.out.trans hp3)
 clear hp3
 go_wp2_with fail
 go_ret
 exact ⟨rfl, Hp3.out⟩
set_option maxHeartbeats 4000000 in
set_option maxRecDepth 100000 in
theorem atom_chr (h : Pos s B g w t) (h0 : 0 ≤ nx t) (h1 : badB (nx t) = false) (h2 : nx t ≠ 46 ∧ nx t ≠ 94 ∧ nx t ≠ 36 ∧ nx t ≠ 40 ∧ nx t ≠ 91 ∧ nx t ≠ 92) : Calls Tryz.prog 113 #[.pointer (some ⟨g, 0, none⟩)] w fun e w' => NoP (.chr (nx t)) s B g w (t.drop (nl t)) e w' := by
 obtain ⟨kk, hkk, c1, -⟩ := row_back h
 have Hn := Lib.hid (qnext h h0)
 have hb := nx_le t
 unfold badB rptB at h1
 simp only [Bool.or_eq_false_iff, decide_eq_false_iff_not] at h1
 generalize hc : nx t = c at *
 have n46 : (c == 46) = false := by simp only [beq_eq_false_iff_ne]; omega
 have n94 : (c == 94) = false := by simp only [beq_eq_false_iff_ne]; omega
 have n36 : (c == 36) = false := by simp only [beq_eq_false_iff_ne]; omega
 have n40 : (c == 40) = false := by simp only [beq_eq_false_iff_ne]; omega
 have n91 : (c == 91) = false := by simp only [beq_eq_false_iff_ne]; omega
 have n92 : (c == 92) = false := by simp only [beq_eq_false_iff_ne]; omega
 have n42 : (c == 42) = false := by simp only [beq_eq_false_iff_ne]; omega
 have n43 : (c == 43) = false := by simp only [beq_eq_false_iff_ne]; omega
 have n63 : (c == 63) = false := by simp only [beq_eq_false_iff_ne]; omega
 have n123 : (c == 123) = false := by simp only [beq_eq_false_iff_ne]; omega
 have n125 : (c == 125) = false := by simp only [beq_eq_false_iff_ne]; omega
 have n93 : (c == 93) = false := by simp only [beq_eq_false_iff_ne]; omega
 have n41 : (c == 41) = false := by simp only [beq_eq_false_iff_ne]; omega
 have n124 : (c == 124) = false := by simp only [beq_eq_false_iff_ne]; omega
 clear h h1 h2 hc
 go_enter Tryz.func113, Tryz.ntmps113
 go_wp2_with fail
 (with_reducible refine Hn.out.mono ?_)
 rintro e w1 ⟨rfl, hp1⟩
 have Hp1 := Lib.hid hp1
 clear hp1 c1
 go_wp2_with fail
 go_ret
 exact ⟨rfl, Hp1.out⟩
theorem patom_any {r : Rx} (k : Atom t r ys) (h : Pos s B g w t) (ha : AltOk s B t.length) : Calls Tryz.prog 113 #[.pointer (some ⟨g, 0, none⟩)] w fun e w' => NoP r s B g w ys e w' := by
 have hl := h.len
 cases k with
 | any => exact atom_any1 h
 | beg => exact atom_beg1 h
 | fin => exact atom_fin1 h
 | group h0 k => exact atom_group h h0 k ha
 | group2 k => exact atom_group2 h k (fun g w t ys l hlt => ha g w t ys l (by simp only [List.length_cons] at hlt ⊢; omega))
 | cls h0 k hs => exact atom_cls (but := false) h (fun w1 h1 => qisn h1 (by have := k.nx; omega) h0) (by simp only [List.length_cons] at hl; omega) k (hs.wk (fun c _ => by unfold butP; simp))
 | classN k hs => exact atom_cls (but := true) h (fun w1 h1 => qis h1 (by decide) (by decide)) (by simp only [List.length_cons] at hl; omega) k (hs.wk (fun c _ => by unfold butP; simp))
 | escS k hs => exact atom_escS h k hs
 | escC k => exact atom_escC h k
 | chr h0 h1 h2 => exact atom_chr h h0 h1 h2
end
theorem pkc_lit {b : UInt8} {t : List UInt8} {c : Int} (h : b.toNat < 128) (hc : ((b.toNat : Nat) : Int) = c) : pkc (b :: t) = c := by
 rw [pkc_of (by rw [nx_lit _ _ h]; exact Int.natCast_nonneg _), nx_lit _ _ h, hc]
theorem rpt_pkc {t : List UInt8} (h : rptB (nx t) = false) : (pkc t == 42) = false ∧ (pkc t == 43) = false ∧ (pkc t == 63) = false ∧ (pkc t == 123) = false := by
 unfold pkc
 split
 ·decide
 ·unfold rptB at h
  simpa [and_assoc] using h
theorem PdP.other {s : ByteArray} {B g b : Nat} {w w1 w2 : World} {t : List UInt8} (h : PdP s B g w t w1) (hf : Fr b w1 w2) (hb : w.heap.size ≤ b) (hg : g < b) : PdP s B g w t w2 := by
 obtain ⟨⟨k, hk, h1, h2, h3, h4, h5⟩, h6⟩ := h
 refine ⟨⟨k, hk, h1, h2.then (hf.low (by omega) h2.size), h3, h4, (hf.block g (lt_of_heap h5) (fun e => by have := Option.some.inj e; omega)).trans h5⟩, ?_⟩
 exact ⟨hf.os.trans h6.os, hf.tape.trans h6.tape, hf.output.trans h6.output, Nat.le_trans h6.size hf.size, fun i hi hig => (hf.block i (Nat.lt_of_lt_of_le hi h6.size) (fun e => by have := Option.some.inj e; omega)).trans (h6.block i hi hig)⟩
section
variable {s : ByteArray} {B g : Nat} {w : World} {t us ys zs : List UInt8} {x : Rx}
set_option maxHeartbeats 8000000 in
set_option maxRecDepth 100000 in
theorem piece_bare (h : Pos s B g w t) (k : Atom t x ys) (h2 : rptB (nx ys) = false) (hn : nx ys ≠ -2) (ha : AltOk s B t.length) : Calls Tryz.prog 103 #[.pointer (some ⟨g, 0, none⟩)] w fun e w' => NoP x s B g w ys e w' := by
 have Han := Lib.hid (qanchor h (by have := k.nx; omega))
 have Hat := Lib.hid (fun (w1 : World) (h : Pos s B g w1 t) => patom_any k h ha)
 obtain ⟨n1, n2, n3, n4⟩ := rpt_pkc h2
 clear h k ha h2
 go_enter Tryz.func103, Tryz.ntmps103
 go_wp2_with fail
 (with_reducible refine Han.out.mono ?_)
 rintro e w1 ⟨rfl, hp1⟩
 have Hp1 := Lib.hid hp1
 clear hp1
 go_wp2_with fail
 (with_reducible refine (Hat.out w1 Hp1.out.pos).mono ?_)
 rintro e w2 ⟨rfl, hp2⟩
 have Hp2 := Lib.hid (Hp1.out.trans hp2)
 clear hp2
 obtain ⟨tv, xv, hv⟩ := nodeV_iface x
 have Hv := Lib.hid hv
 rw [hv]
 clear hv
 go_wp2_with fail
 (with_reducible refine (qpeek Hp2.out.pos hn).mono ?_)
 rintro e w3 ⟨rfl, hb3⟩
 have Hp3 := Lib.hid (Hp2.out.quiet hb3)
 clear hb3
 generalize pkc ys = c at *
 generalize nl ys = z at *
 go_wp2_with fail
 go_ret
 exact ⟨by rw [Hv.out]; rfl, Hp3.out⟩
set_option maxHeartbeats 8000000 in
set_option maxRecDepth 100000 in
theorem piece_br (h : Pos s B g w t) {n m : Int} (k : Atom t x (123 :: us)) (kb : Braces us n m ys) (h0 : nx t ≠ 94 ∧ nx t ≠ 36) (h2 : rptB (nx ys) = false) (hn : nx ys ≠ -2) (ha : AltOk s B t.length) : Calls Tryz.prog 103 #[.pointer (some ⟨g, 0, none⟩)] w fun e w' => NoP (.rep x n m) s B g w ys e w' := by
 have Han := Lib.hid (qanchor h (by have := k.nx; omega))
 rw [show ancB (nx t) = false by unfold ancB; simpa using h0] at Han
 have Hat := Lib.hid (fun (w1 : World) (h : Pos s B g w1 t) => patom_any k h ha)
 have Hn := Lib.hid hn
 obtain ⟨n1, n2, n3, n4⟩ := rpt_pkc h2
 have Hq := Lib.hid (show pkc (123 :: us) = 123 from pkc_lit (by decide) (by decide))
 have Hbr := Lib.hid kb
 clear kb h k ha h2 h0 hn
 go_enter Tryz.func103, Tryz.ntmps103
 go_wp2_with fail
 (with_reducible refine Han.out.mono ?_)
 rintro e w1 ⟨rfl, hp1⟩
 have Hp1 := Lib.hid hp1
 clear hp1
 go_wp2_with fail
 (with_reducible refine (Hat.out w1 Hp1.out.pos).mono ?_)
 rintro e w2 ⟨rfl, hp2⟩
 have Hp2 := Lib.hid (Hp1.out.trans hp2)
 clear hp2
 obtain ⟨tv, xv, hv⟩ := nodeV_iface x
 have Hv := Lib.hid hv
 rw [hv]
 clear hv
 go_wp2_with fail
 (with_reducible refine (qpeek Hp2.out.pos (by rw [nx_lit _ _ (by decide)]; decide)).mono ?_)
 rintro e w3 ⟨rfl, hb3⟩
 have Hp3 := Lib.hid (Hp2.out.quiet hb3)
 clear hb3
 rw [Hq.out]
 generalize nl (123 :: us) = z at *
 obtain ⟨kk, hkk, c0, c1, f1, hset⟩ := row_setAt Hp3.out.pos
 have Hset := Lib.hid hset
 clear hset
 have Hpa := Lib.hid ((Hp3.out.trans (Hset.out _ rfl)).quiet (alloc_below _ (.cells #[.iface tv xv, .int .i64 0, .int .i64 (-1)] 174)))
 have hrow := heap_alloc_new (w3.setCell ⟨g, 1, none⟩ (.int .i64 ((kk : Int) + 1))) (.cells #[.iface tv xv, .int .i64 0, .int .i64 (-1)] 174)
 rw [World.size_setCell] at hrow
 have Hrow := Lib.hid hrow
 have hgb := Hp3.out.pos.lt
 clear hrow Hset
 go_wp2_with fail
 clear c0 c1 f1
 generalize ((w3.setCell ⟨g, 1, none⟩ (.int .i64 ((kk : Int) + 1))).alloc (.cells #[.iface tv xv, .int .i64 0, .int .i64 (-1)] 174)) = wa at *
 (with_reducible refine (pbraces_any Hbr.out Hpa.out.pos (kk : Int)).mono ?_)
 rintro e w4 ⟨rfl, hp4⟩
 have Hp4 := Lib.hid (Hpa.out.trans hp4)
 have hrow4 := (hp4.2.block _ (lt_of_heap Hrow.out) (fun e => by have := Option.some.inj e; omega)).trans Hrow.out
 have hb2 : w.heap.size ≤ w3.heap.size := Hp3.out.size
 generalize w3.heap.size = b at *
 have Hrow4 := Lib.hid hrow4
 clear hrow4 hp4
 have d1 := row_cell Hrow4.out (j := 1) rfl
 have d2 := row_cell Hrow4.out (j := 2) rfl
 have e1 := row_frozen Hrow4.out 1
 have e2 := row_frozen Hrow4.out 2
 go_wp2_with fail
 have Hpz := Lib.hid (Hp4.out.other ((Fr.set b 1 w4 (.int .i64 n)).then (Fr.set b 2 _ (.int .i64 m))) hb2 hgb)
 have Hrz := Lib.hid (row_set (row_set Hrow4.out 1 (.int .i64 n)) 2 (.int .i64 m))
 clear d1 d2 e1 e2 Hp4 Hrow4
 generalize (w4.setCell ⟨b, 1, none⟩ (.int .i64 n)).setCell ⟨b, 2, none⟩ (.int .i64 m) = wz at *
 (with_reducible refine (qpeek Hpz.out.pos Hn.out).mono ?_)
 rintro e w5 ⟨rfl, hb5⟩
 have Hp5 := Lib.hid (Hpz.out.quiet hb5)
 have hrow5 := (hb5.block _ (lt_of_heap Hrz.out)).trans Hrz.out
 have d0 : w5.cell? ⟨b, 0, none⟩ = some (.iface tv xv) := row_cell hrow5 (j := 0) rfl
 have d1 : w5.cell? ⟨b, 1, none⟩ = some (.int .i64 n) := row_cell hrow5 (j := 1) rfl
 have d2 : w5.cell? ⟨b, 2, none⟩ = some (.int .i64 m) := row_cell hrow5 (j := 2) rfl
 clear hb5
 generalize pkc ys = c at *
 generalize nl ys = z2 at *
 go_wp2_with fail
 go_ret
 exact ⟨by rw [show nodeV (.rep x n m) = .iface 174 (.agg #[nodeV x, .int .i64 n, .int .i64 m]) from rfl, Hv.out]; rfl, Hp5.out⟩
set_option maxHeartbeats 8000000 in
set_option maxRecDepth 100000 in
theorem piece_star (h : Pos s B g w t) (k : Atom t x (42 :: ys)) (h0 : nx t ≠ 94 ∧ nx t ≠ 36) (h2 : rptB (nx ys) = false) (hn : nx ys ≠ -2) (ha : AltOk s B t.length) : Calls Tryz.prog 103 #[.pointer (some ⟨g, 0, none⟩)] w fun e w' => NoP (.rep x 0 (-1)) s B g w ys e w' := by
 have Han := Lib.hid (qanchor h (by have := k.nx; omega))
 rw [show ancB (nx t) = false by unfold ancB; simpa using h0] at Han
 have Hat := Lib.hid (fun (w1 : World) (h : Pos s B g w1 t) => patom_any k h ha)
 have Hn := Lib.hid hn
 obtain ⟨n1, n2, n3, n4⟩ := rpt_pkc h2
 have Hq := Lib.hid (show pkc (42 :: ys) = 42 from pkc_lit (by decide) (by decide))
 clear h k ha h2 h0 hn
 go_enter Tryz.func103, Tryz.ntmps103
 go_wp2_with fail
 (with_reducible refine Han.out.mono ?_)
 rintro e w1 ⟨rfl, hp1⟩
 have Hp1 := Lib.hid hp1
 clear hp1
 go_wp2_with fail
 (with_reducible refine (Hat.out w1 Hp1.out.pos).mono ?_)
 rintro e w2 ⟨rfl, hp2⟩
 have Hp2 := Lib.hid (Hp1.out.trans hp2)
 clear hp2
 obtain ⟨tv, xv, hv⟩ := nodeV_iface x
 have Hv := Lib.hid hv
 rw [hv]
 clear hv
 go_wp2_with fail
 (with_reducible refine (qpeek Hp2.out.pos (by rw [nx_lit _ _ (by decide)]; decide)).mono ?_)
 rintro e w3 ⟨rfl, hb3⟩
 have Hp3 := Lib.hid (Hp2.out.quiet hb3)
 clear hb3
 rw [Hq.out]
 generalize nl (42 :: ys) = z at *
 obtain ⟨kk, hkk, c0, c1, f1, hset⟩ := row_setAt Hp3.out.pos
 have Hset := Lib.hid hset
 clear hset
 have Hpa := Lib.hid ((Hp3.out.trans (Hset.out _ rfl)).quiet (alloc_below _ (.cells #[.iface tv xv, .int .i64 0, .int .i64 (-1)] 174)))
 have hrow := heap_alloc_new (w3.setCell ⟨g, 1, none⟩ (.int .i64 ((kk : Int) + 1))) (.cells #[.iface tv xv, .int .i64 0, .int .i64 (-1)] 174)
 rw [World.size_setCell] at hrow
 have Hrow := Lib.hid hrow
 clear hrow Hset
 go_wp2_with fail
 clear c0 c1 f1
 (with_reducible refine (qpeek Hpa.out.pos Hn.out).mono ?_)
 rintro e w5 ⟨rfl, hb5⟩
 have Hp5 := Lib.hid (Hpa.out.quiet hb5)
 have hrow5 := (hb5.block _ (lt_of_heap Hrow.out)).trans Hrow.out
 have d0 := row_cell hrow5 (j := 0) rfl
 have d1 := row_cell hrow5 (j := 1) rfl
 have d2 := row_cell hrow5 (j := 2) rfl
 generalize w3.heap.size = b at *
 clear hb5
 generalize pkc ys = c at *
 generalize nl ys = z at *
 go_wp2_with fail
 go_ret
 exact ⟨by rw [show nodeV (.rep x 0 (-1)) = .iface 174 (.agg #[nodeV x, .int .i64 0, .int .i64 (-1)]) from rfl, Hv.out]; rfl, Hp5.out⟩
set_option maxHeartbeats 8000000 in
set_option maxRecDepth 100000 in
theorem piece_plus (h : Pos s B g w t) (k : Atom t x (43 :: ys)) (h0 : nx t ≠ 94 ∧ nx t ≠ 36) (h2 : rptB (nx ys) = false) (hn : nx ys ≠ -2) (ha : AltOk s B t.length) : Calls Tryz.prog 103 #[.pointer (some ⟨g, 0, none⟩)] w fun e w' => NoP (.rep x 1 (-1)) s B g w ys e w' := by
 have Han := Lib.hid (qanchor h (by have := k.nx; omega))
 rw [show ancB (nx t) = false by unfold ancB; simpa using h0] at Han
 have Hat := Lib.hid (fun (w1 : World) (h : Pos s B g w1 t) => patom_any k h ha)
 have Hn := Lib.hid hn
 obtain ⟨n1, n2, n3, n4⟩ := rpt_pkc h2
 have Hq := Lib.hid (show pkc (43 :: ys) = 43 from pkc_lit (by decide) (by decide))
 clear h k ha h2 h0 hn
 go_enter Tryz.func103, Tryz.ntmps103
 go_wp2_with fail
 (with_reducible refine Han.out.mono ?_)
 rintro e w1 ⟨rfl, hp1⟩
 have Hp1 := Lib.hid hp1
 clear hp1
 go_wp2_with fail
 (with_reducible refine (Hat.out w1 Hp1.out.pos).mono ?_)
 rintro e w2 ⟨rfl, hp2⟩
 have Hp2 := Lib.hid (Hp1.out.trans hp2)
 clear hp2
 obtain ⟨tv, xv, hv⟩ := nodeV_iface x
 have Hv := Lib.hid hv
 rw [hv]
 clear hv
 go_wp2_with fail
 (with_reducible refine (qpeek Hp2.out.pos (by rw [nx_lit _ _ (by decide)]; decide)).mono ?_)
 rintro e w3 ⟨rfl, hb3⟩
 have Hp3 := Lib.hid (Hp2.out.quiet hb3)
 clear hb3
 rw [Hq.out]
 generalize nl (43 :: ys) = z at *
 obtain ⟨kk, hkk, c0, c1, f1, hset⟩ := row_setAt Hp3.out.pos
 have Hset := Lib.hid hset
 clear hset
 have Hpa := Lib.hid ((Hp3.out.trans (Hset.out _ rfl)).quiet (alloc_below _ (.cells #[.iface tv xv, .int .i64 1, .int .i64 (-1)] 174)))
 have hrow := heap_alloc_new (w3.setCell ⟨g, 1, none⟩ (.int .i64 ((kk : Int) + 1))) (.cells #[.iface tv xv, .int .i64 1, .int .i64 (-1)] 174)
 rw [World.size_setCell] at hrow
 have Hrow := Lib.hid hrow
 clear hrow Hset
 go_wp2_with fail
 clear c0 c1 f1
 (with_reducible refine (qpeek Hpa.out.pos Hn.out).mono ?_)
 rintro e w5 ⟨rfl, hb5⟩
 have Hp5 := Lib.hid (Hpa.out.quiet hb5)
 have hrow5 := (hb5.block _ (lt_of_heap Hrow.out)).trans Hrow.out
 have d0 := row_cell hrow5 (j := 0) rfl
 have d1 := row_cell hrow5 (j := 1) rfl
 have d2 := row_cell hrow5 (j := 2) rfl
 generalize w3.heap.size = b at *
 clear hb5
 generalize pkc ys = c at *
 generalize nl ys = z at *
 go_wp2_with fail
 go_ret
 exact ⟨by rw [show nodeV (.rep x 1 (-1)) = .iface 174 (.agg #[nodeV x, .int .i64 1, .int .i64 (-1)]) from rfl, Hv.out]; rfl, Hp5.out⟩
set_option maxHeartbeats 8000000 in
set_option maxRecDepth 100000 in
theorem piece_quest (h : Pos s B g w t) (k : Atom t x (63 :: ys)) (h0 : nx t ≠ 94 ∧ nx t ≠ 36) (h2 : rptB (nx ys) = false) (hn : nx ys ≠ -2) (ha : AltOk s B t.length) : Calls Tryz.prog 103 #[.pointer (some ⟨g, 0, none⟩)] w fun e w' => NoP (.rep x 0 1) s B g w ys e w' := by
 have Han := Lib.hid (qanchor h (by have := k.nx; omega))
 rw [show ancB (nx t) = false by unfold ancB; simpa using h0] at Han
 have Hat := Lib.hid (fun (w1 : World) (h : Pos s B g w1 t) => patom_any k h ha)
 have Hn := Lib.hid hn
 obtain ⟨n1, n2, n3, n4⟩ := rpt_pkc h2
 have Hq := Lib.hid (show pkc (63 :: ys) = 63 from pkc_lit (by decide) (by decide))
 clear h k ha h2 h0 hn
 go_enter Tryz.func103, Tryz.ntmps103
 go_wp2_with fail
 (with_reducible refine Han.out.mono ?_)
 rintro e w1 ⟨rfl, hp1⟩
 have Hp1 := Lib.hid hp1
 clear hp1
 go_wp2_with fail
 (with_reducible refine (Hat.out w1 Hp1.out.pos).mono ?_)
 rintro e w2 ⟨rfl, hp2⟩
 have Hp2 := Lib.hid (Hp1.out.trans hp2)
 clear hp2
 obtain ⟨tv, xv, hv⟩ := nodeV_iface x
 have Hv := Lib.hid hv
 rw [hv]
 clear hv
 go_wp2_with fail
 (with_reducible refine (qpeek Hp2.out.pos (by rw [nx_lit _ _ (by decide)]; decide)).mono ?_)
 rintro e w3 ⟨rfl, hb3⟩
 have Hp3 := Lib.hid (Hp2.out.quiet hb3)
 clear hb3
 rw [Hq.out]
 generalize nl (63 :: ys) = z at *
 obtain ⟨kk, hkk, c0, c1, f1, hset⟩ := row_setAt Hp3.out.pos
 have Hset := Lib.hid hset
 clear hset
 have Hpa := Lib.hid ((Hp3.out.trans (Hset.out _ rfl)).quiet (alloc_below _ (.cells #[.iface tv xv, .int .i64 0, .int .i64 1] 174)))
 have hrow := heap_alloc_new (w3.setCell ⟨g, 1, none⟩ (.int .i64 ((kk : Int) + 1))) (.cells #[.iface tv xv, .int .i64 0, .int .i64 1] 174)
 rw [World.size_setCell] at hrow
 have Hrow := Lib.hid hrow
 clear hrow Hset
 go_wp2_with fail
 clear c0 c1 f1
 (with_reducible refine (qpeek Hpa.out.pos Hn.out).mono ?_)
 rintro e w5 ⟨rfl, hb5⟩
 have Hp5 := Lib.hid (Hpa.out.quiet hb5)
 have hrow5 := (hb5.block _ (lt_of_heap Hrow.out)).trans Hrow.out
 have d0 := row_cell hrow5 (j := 0) rfl
 have d1 := row_cell hrow5 (j := 1) rfl
 have d2 := row_cell hrow5 (j := 2) rfl
 generalize w3.heap.size = b at *
 clear hb5
 generalize pkc ys = c at *
 generalize nl ys = z at *
 go_wp2_with fail
 go_ret
 exact ⟨by rw [show nodeV (.rep x 0 1) = .iface 174 (.agg #[nodeV x, .int .i64 0, .int .i64 1]) from rfl, Hv.out]; rfl, Hp5.out⟩
theorem ppiece_any (h : Pos s B g w t) (k : Piece t x ys) (hn : nx ys ≠ -2) (ha : AltOk s B t.length) : Calls Tryz.prog 103 #[.pointer (some ⟨g, 0, none⟩)] w fun e w' => NoP x s B g w ys e w' := by
 cases k with
 | bare k h2 => exact piece_bare h k h2 hn ha
 | rep h0 k q h3 =>
  cases q with
  | star => exact piece_star h k h0 h3 hn ha
  | plus => exact piece_plus h k h0 h3 hn ha
  | quest => exact piece_quest h k h0 h3 hn ha
  | braces q => exact piece_br h k q h0 h3 hn ha
end
end Go.Proofs.YthhnmpkgleelfaaGreatDoor
