/-
  RegionOnce, walked: called with any four numbers and any order of less than 2^47 bytes, it returns true. (Written by mk_rgonce.py, a program of this session.)
-/
import Derived.Test.YtafmeagfockdfaaRgOne
import Derived.Test.YtafmeagfockdfaaRgTop
import Derived.Test.YtafmeagfockdfaaMask
import Derived.Outline
namespace Go.Proofs.Ytafmeagfockdfaa.Rg
open Go.Proofs.Ytafmeagfockdfaa.Evs Go.RowKit Go.Proofs.YtafmeagfockdfaaW.PrintWords Go.Proofs.YtafmeagfockdfaaW.PrintLast Go.Proofs.YtafmeagfockdfaaW.PrintMore
set_option linter.unusedVariables false
set_option linter.unusedSimpArgs false

/-- What memory holds beside the row. -/
structure OnceW (gr gd : Nat) (r : S41) (A9 : Option Addr) (c9 : Nat) (dn : List Bool) (w W : World) : Prop where
  bd : W.heap[gd]? = some (.cells (dn.map Value.bool).toArray 46 (0, 0))
  br : W.heap[gr]? = some (.cells #[.int .i64 r.f0, .int .i64 r.f1, .int .i64 r.f2, .int .i64 r.f3, .int .i64 r.f4, .int .i64 r.f5] 41 (0, 0))
  wh : Kd.V k41 41 W 0 (fun k => k < gd) (.slice A9 1 c9) [r]
  bel : Below w.heap.size w W
  lo : w.heap.size ≤ gr
  ne : gr < gd
theorem OnceW.below {gr gd : Nat} {r : S41} {A9 : Option Addr} {c9 : Nat} {dn : List Bool} {w W W' : World} (h : OnceW gr gd r A9 c9 dn w W) (hb : Below W.heap.size W W') : OnceW gr gd r A9 c9 dn w W' :=
  ⟨blk_below h.bd hb, blk_below h.br hb, Kd.V_below h.wh hb, h.bel.trans (hb.mono h.bel.size), h.lo, h.ne⟩
theorem OnceW.put {gr gd : Nat} {r : S41} {A9 : Option Addr} {c9 : Nat} {dn : List Bool} {w W : World} (h : OnceW gr gd r A9 c9 dn w W) (k : Nat) : OnceW gr gd r A9 c9 (dn.set k true) w (W.setCell ⟨gd, k, none⟩ (.bool true)) := by
  refine ⟨?_, blk_far h.br (Nat.ne_of_lt h.ne) _, Kd.V_far h.wh (fun q hq => Nat.ne_of_lt hq) _, h.bel.setCell (p := ⟨gd, k, none⟩) (Nat.le_trans h.lo (Nat.le_of_lt h.ne)) _, h.lo, h.ne⟩
  have := blk_set h.bd k (.bool true)
  rw [this]
  simp [List.map_set]
/-- What the row has, of what is done. -/
structure OnceR (r : S41) (dn : List Bool) (l : List S41) : Prop where
  valid : Valid l
  len : dn.length = 16
  map : ∀ p, mapOf l p = if r.f0 ≤ p ∧ p < r.f1 ∧ dn.getD (p - r.f0).toNat false = true then some (pg r p) else none
theorem OnceR.start (r : S41) : OnceR r (List.replicate 16 false) [] := by
  refine ⟨Valid.nil, rfl, fun p => ?_⟩
  rw [mapOf_nil, if_neg]
  rintro ⟨_, _, h⟩
  rw [List.getD_eq_getElem?_getD, List.getElem?_replicate] at h
  split at h <;> cases h
theorem OnceR.add {r : S41} (m : MayP r) {dn : List Bool} {l : List S41} (h : OnceR r dn l) (k : Nat) (hk : r.f0 + k < r.f1) (hn : dn.getD k false = false) (h16 : k < 16) :
    ∃ res, region_Add.f l (r.f0 + k) (r.f0 + k + 1) r.f2 r.f3 r.f4 (if r.f3 = 1 then r.f5 + k else r.f5) = some (res, 0) ∧ OnceR r (dn.set k true) res := by
  have m0 := m.lo; have m1 := m.lt; have m2 := m.hi
  have hx : pg r (r.f0 + k) = ⟨r.f0 + k, r.f0 + k + 1, r.f2, r.f3, r.f4, if r.f3 = 1 then r.f5 + k else r.f5⟩ := by
    unfold pg
    have : r.f5 + (r.f0 + k) - r.f0 = r.f5 + k := by omega
    rw [this]
  have mx_ : MayP (pg r (r.f0 + k)) := ((Valid.one m).page (p := r.f0 + k) (x := pg r (r.f0 + k)) (by rw [mapOf_one, if_pos ⟨by omega, hk⟩])).2.2.1
  have hf0 : (pg r (r.f0 + k)).f0 = r.f0 + k := rfl
  have hf1 : (pg r (r.f0 + k)).f1 = r.f0 + k + 1 := rfl
  obtain ⟨res, h1, h2, h3⟩ := add_ok h.valid mx_ (fun p p0 p1 => by
    rw [hf0] at p0
    rw [hf1] at p1
    have : p = r.f0 + k := by omega
    rw [h.map, if_neg]
    rintro ⟨_, _, h4⟩
    rw [this] at h4
    have : (r.f0 + (k : Int) - r.f0).toNat = k := by omega
    rw [this, hn] at h4
    cases h4)
  refine ⟨res, ?_, h2, by rw [List.length_set]; exact h.len, fun p => ?_⟩
  · rw [hx] at h1; exact h1
  · rw [h3, hf0, hf1]
    by_cases hp : p = r.f0 + k
    · rw [if_pos (by omega), if_pos]
      · rw [hp]
        rw [pg_self hf0 hf1]
      · refine ⟨by omega, by omega, ?_⟩
        have : (p - r.f0).toNat = k := by omega
        rw [this, List.getD_eq_getElem?_getD, List.getElem?_set_self (by rw [h.len]; exact h16)]
        rfl
    · rw [if_neg (by omega), h.map]
      by_cases hr : r.f0 ≤ p ∧ p < r.f1
      · have : (p - r.f0).toNat ≠ k := by omega
        rw [List.getD_eq_getElem?_getD, List.getD_eq_getElem?_getD, List.getElem?_set_ne (Ne.symm this)]
      · rw [if_neg (fun h => hr ⟨h.1, h.2.1⟩), if_neg (fun h => hr ⟨h.1, h.2.1⟩)]
theorem OnceR.fin {r : S41} (m : MayP r) {dn : List Bool} {l : List S41} (h : OnceR r dn l) (n : Nat) (hn : r.f1 = r.f0 + n) (all : ∀ j, j < n → dn.getD j false = true) : l = [r] := by
  refine row_one h.valid m (fun p => ?_)
  rw [h.map, mapOf_one]
  by_cases hr : r.f0 ≤ p ∧ p < r.f1
  · rw [if_pos ⟨hr.1, hr.2, all _ (by omega)⟩, if_pos hr]
  · rw [if_neg (fun h => hr ⟨h.1, h.2.1⟩), if_neg hr]
theorem once_whole {r : S41} (m : MayP r) : region_Add.f [] r.f0 r.f1 r.f2 r.f3 r.f4 r.f5 = some ([r], 0) := by
  obtain ⟨res, h1, h2, h3⟩ := add_ok Valid.nil m (fun p _ _ => mapOf_nil p)
  have : res = [r] := row_one h2 m (fun p => by rw [h3, mapOf_one, mapOf_nil])
  rw [this] at h1
  exact h1
set_option maxHeartbeats 4000000 in
set_option maxRecDepth 100000 in
theorem once_zero (A0 : Option Addr) (c0 : Nat) (l0 : List Int) (q0 q1 q2 q3 : Int) (w : World) (hr0 : Kd.C (Kd.int .i64) w A0 l0.length l0) (hc0 : l0.length ≤ c0) (hlen : l0.length * 8 ≤ 140737488351232) (hq : Go.bits .and .i64 q3 1 = 0) :
    Calls Try.prog 7 #[.agg #[.int .i64 q0, .int .i64 q1, .int .i64 q2, .int .i64 q3], .slice A0 l0.length c0] w fun e w' => e = .returned (.bool true) ∧ Below w.heap.size w w' := by
  obtain ⟨ka, hka⟩ := awake_ev.rounds
  have HKA := Aside0.mk hka
  have HR0 := Aside0.mk hr0
  have HC0 := Aside0.mk hc0
  obtain ⟨fr, hfr, f0, f1⟩ : ∃ fr, Go.bits .and .i64 q0 63 = fr ∧ 0 ≤ fr ∧ fr ≤ 63 := ⟨_, rfl, by rw [i64_and63]; omega, by rw [i64_and63]; omega⟩
  obtain ⟨n0, hn0, n00, n01⟩ : ∃ n0, Go.bits .and .i64 q1 15 = n0 ∧ 0 ≤ n0 ∧ n0 ≤ 15 := ⟨_, rfl, by rw [i64_and15]; omega, by rw [i64_and15]; omega⟩
  obtain ⟨pm, hpm, p0, p1⟩ : ∃ pm, Go.bits .and .i64 q2 7 = pm ∧ 0 ≤ pm ∧ pm ≤ 7 := ⟨_, rfl, by rw [i64_and7]; omega, by rw [i64_and7]; omega⟩
  have M := Aside0.mk (show MayP (⟨fr, fr + (1 + n0), pm, 2, -1, 0⟩ : S41) from ⟨by show 0 ≤ fr; omega, by show fr < fr + (1 + n0); omega, by show fr + (1 + n0) ≤ 4096; omega, p0, p1, .inr ⟨by show (1 : Int) < 2; omega, by show (2 : Int) ≤ 4; omega, rfl, rfl⟩⟩)
  have HADD := Aside0.mk (once_whole M.out)
  have hl0 : (l0.length : Int) ≤ 140737488351232 := by omega
  clear hka hr0 hc0 hlen
  go_enter Try.func7, Try.ntmps7
  go_wp2_with ((with_reducible refine gate_dst (N := 2) rfl ?_); refine box_event ?hg (N := 2) ?hd (cs := #[.int .i64 q0, .int .i64 q1, .int .i64 q2, .int .i64 q3]) (t := 39) ?hr ?_; (case hd => rfl); (case hg => rfl); (case hr => first | (go_simp; done) | (go_simp; rfl)); intro gq hgq w1 hbox hb1; have BQ := Aside0.mk hbox; have HW := Aside0.mk hb1; clear hbox hb1 hgq)
  refine (flyleaflaw15_awake.calls ka _ _ HKA.out).mono ?_
  rintro e w2 ⟨rfl, hb2⟩
  have BQ2 := Aside0.mk (blk_below BQ.out hb2)
  have HW2 := Aside0.mk (HW.out.trans (hb2.mono HW.out.size))
  clear BQ HW hb2
  have hq0 := (blk_cell BQ2.out 0).trans (rfl : _ = some (Value.int .i64 q0))
  have hq1 := (blk_cell BQ2.out 1).trans (rfl : _ = some (Value.int .i64 q1))
  have hq2 := (blk_cell BQ2.out 2).trans (rfl : _ = some (Value.int .i64 q2))
  have hq3 := (blk_cell BQ2.out 3).trans (rfl : _ = some (Value.int .i64 q3))
  have hgl := blk_lt BQ2.out
  go_wp2_with fail
  refine (region_Add.calls none 0 ([] : List S41) _ _ _ _ _ _ _ _ _ (Kd.C_nil _ _) (Nat.le_refl _) HADD.out).mono ?_
  rintro e w3 ⟨v9, rfl, ho0, hb⟩
  have W3 := Aside0.mk ((below_alloc (Below.refl w2.heap.size w2) (.cells #[.int .i64 (fr), .int .i64 (fr + (1 + n0)), .int .i64 (pm), .int .i64 (2), .int .i64 ((-1)), .int .i64 (0)] 41)).trans (hb.mono (by simp)))
  have BR := Aside0.mk (blk_below (blk_new w2 (.cells #[.int .i64 (fr), .int .i64 (fr + (1 + n0)), .int .i64 (pm), .int .i64 (2), .int .i64 ((-1)), .int .i64 (0)] 41)) hb)
  have GW := Aside0.mk HW2.out.size
  generalize hgr : w2.heap.size = gr at W3 BR GW ⊢
  have HB3 := Aside0.mk (HW2.out.trans (W3.out.mono (by rw [← hgr]; exact HW2.out.size)))
  have HV9 := Aside0.mk (Kd.V_bound ho0)
  obtain ⟨A9, c9, e9⟩ := Kd.V_slice ho0
  subst e9
  clear ho0 hb hq0 hq1 hq2 hq3 hgl W3 HW2 BQ2 hgr
  have GD := Aside0.mk (blk_lt BR.out)
  go_wp2_with ((with_reducible refine gate_dst (N := 12) rfl ?_); refine box_event ?hg (N := 12) ?hd (cs := #[.bool false, .bool false, .bool false, .bool false, .bool false, .bool false, .bool false, .bool false, .bool false, .bool false, .bool false, .bool false, .bool false, .bool false, .bool false, .bool false]) (t := 46) ?hr ?_; (case hd => rfl); (case hg => rfl); (case hr => first | (go_simp; done) | (go_simp; rfl)); intro gd hgd w4 hbox hb4; have HW3 := Aside0.mk (show OnceW gr gd (⟨fr, fr + (1 + n0), pm, 2, -1, 0⟩ : S41) A9 c9 (List.replicate 16 false) w w4 from ⟨hbox, blk_below BR.out hb4, Kd.V_lower (Kd.V_mono (Kd.V_below HV9.out hb4) (fun k hk => by have := hk.2; omega)) (Nat.zero_le _), HB3.out.trans (hb4.mono HB3.out.size), GW.out, by have := GD.out; omega⟩); clear hbox hb4 hgd BR HV9 GW GD)
  go_loopg [11, 13] (l0.length + (1 + n0).toNat) (fun kq v11 v13 wr => ∃ (i : Nat) (l : List S41) (A : Option Addr) (c : Nat) (dn : List Bool), v11 = .slice A l.length c ∧ v13 = .int .i64 (i : Int) ∧ Aside0 (i + kq = l0.length + (1 + n0).toNat) ∧ Aside0 (OnceW gr gd (⟨fr, fr + (1 + n0), pm, 2, -1, 0⟩ : S41) A9 c9 dn w wr) ∧ Aside0 (OnceR (⟨fr, fr + (1 + n0), pm, 2, -1, 0⟩ : S41) dn l) ∧ Aside0 (Kd.V k41 41 wr 0 (fun k => gd < k) (.slice A l.length c) l) ∧ Aside0 (∀ j, j + l0.length < i → dn.getD j false = true))
  case atStart => exact ⟨0, [], none, 0, _, rfl, rfl, ⟨by omega⟩, HW3, ⟨OnceR.start _⟩, ⟨Kd.V_nil _ _ _ _ _⟩, ⟨fun j hj => by omega⟩⟩
  case round =>
    clear HW3 HB3
    obtain ⟨i, l, A, c, dn, rfl, rfl, HK, HO, HR, HV, HA⟩ := hrel
    cases gk with
    | zero =>
      have hi : ¬ (i : Int) < (l0.length : Int) + (1 + n0) := by have := HK.out; omega
      obtain rfl := OnceR.fin M.out HR.out (1 + n0).toNat (by show fr + (1 + n0) = fr + ((1 + n0).toNat : Int); omega) (fun j hj => HA.out j (by have := HK.out; omega))
      obtain ⟨ks, hks⟩ := (same_ev [(⟨fr, fr + (1 + n0), pm, 2, -1, 0⟩ : S41)] (by simp)).rounds
      have HKS := Aside0.mk hks
      clear hks
      go_wp2_with fail
      refine (flyleafref15_Same.calls ks _ _ [(⟨fr, fr + (1 + n0), pm, 2, -1, 0⟩ : S41)] _ _ [(⟨fr, fr + (1 + n0), pm, 2, -1, 0⟩ : S41)] true _ (Kd.V_reads' HV.out).2.2 (Kd.V_reads' HV.out).2.1 (Kd.V_reads' HO.out.wh).2.2 (Kd.V_reads' HO.out.wh).2.1 HKS.out).mono ?_
      rintro e w9 ⟨rfl, hb9⟩
      have HB9 := Aside0.mk (HO.out.bel.trans (hb9.below.mono HO.out.bel.size))
      clear hb9
      go_wp2
      go_ret
      exact ⟨rfl, HB9.out⟩
    | succ k1 =>
      have hi : (i : Int) < (l0.length : Int) + (1 + n0) := by have := HK.out; omega
      have hr0 := (blk_cell HO.out.br 0).trans (rfl : _ = some (Value.int .i64 (fr)))
      have hr1 := (blk_cell HO.out.br 1).trans (rfl : _ = some (Value.int .i64 (fr + (1 + n0))))
      have hr2 := (blk_cell HO.out.br 2).trans (rfl : _ = some (Value.int .i64 (pm)))
      have hr3 := (blk_cell HO.out.br 3).trans (rfl : _ = some (Value.int .i64 (2)))
      have hr4 := (blk_cell HO.out.br 4).trans (rfl : _ = some (Value.int .i64 ((-1))))
      have hr5 := (blk_cell HO.out.br 5).trans (rfl : _ = some (Value.int .i64 (0)))
      have hgd := blk_lt HO.out.bd
      have hgr := blk_lt HO.out.br
      have h16 := HR.out.len
      by_cases hil : (i : Int) < (l0.length : Int)
      · obtain ⟨ad, cs, ead, _, hK, hcs⟩ := Kd.C_get (Kd.C_below HR0.out HO.out.bel) (0 : Int) (i : Int) (by omega) hil
        subst ead
        obtain rfl : cs = [.int .i64 (l0.getD (i : Int).toNat 0)] := hK
        have hoi := hcs 0 _ rfl
        simp only [show (Kd.int .i64).sz = 1 from rfl, Int.toNat_natCast, Nat.mul_one, Nat.add_zero] at hoi
        obtain ⟨x, hx⟩ : ∃ x, l0.getD i 0 = x := ⟨_, rfl⟩
        rw [hx] at hoi
        obtain ⟨q, hqx⟩ : ∃ q, x.tmod (1 + n0) = q := ⟨_, rfl⟩
        have hq1 : -(1 + n0) < q ∧ q < 1 + n0 := by rw [← hqx]; exact ⟨by have := Int.lt_tmod_of_pos x (show 0 < 1 + n0 by omega); omega, Int.tmod_lt_of_pos x (by omega)⟩
        obtain ⟨qa, qb⟩ := hq1
        have qm0 := Int.emod_nonneg (q + (1 + n0)) (show 1 + n0 ≠ 0 by omega)
        have qm1 := Int.emod_lt_of_pos (q + (1 + n0)) (show 0 < 1 + n0 by omega)
        obtain ⟨kk, hkk⟩ : ∃ kk : Nat, (q + (1 + n0)) % (1 + n0) = (kk : Int) := ⟨((q + (1 + n0)) % (1 + n0)).toNat, by omega⟩
        rw [hkk] at qm0 qm1
        rw [← Int.tmod_eq_emod_of_nonneg (show 0 ≤ q + (1 + n0) by omega)] at hkk
        have hkj : ∀ j, j + l0.length = i → j = kk := fun j hj => by omega
        clear hx hcs
        have hc : wr.cell? ⟨gd, kk, none⟩ = some (.bool (dn.getD kk false)) := by rw [blk_cell HO.out.bd kk]; simp [show kk < dn.length by omega]
        have hfz := blk_frozen HO.out.bd kk
        have HJ := Aside0.mk hkj
        clear hkj
        cases hb : dn.getD kk false with
        | true =>
          rw [hb] at hc
          have HBT := Aside0.mk hb
          clear hb
          go_wp2
          go_roundg k1
          case measure => omega
          case rel => exact ⟨i + 1, l, A, c, dn, rfl, (by first | rfl | simp), ⟨by have := HK.out; omega⟩, HO, HR, HV, ⟨fun j hj => by
            by_cases hji : j + l0.length < i
            · exact HA.out j hji
            · have e : j = kk := HJ.out j (by omega)
              rw [e]; exact HBT.out⟩⟩
        | false =>
          rw [hb] at hc
          have HBF := Aside0.mk hb
          clear hb
          obtain ⟨res, hres, hor⟩ := HR.out.add M.out kk (show fr + (kk : Int) < fr + (1 + n0) by omega) HBF.out (by omega)
          have HRES := Aside0.mk (show region_Add.f l (fr + (kk : Int)) (fr + (kk : Int) + 1) pm 2 (-1) 0 = some (res, 0) from hres)
          have HOR := Aside0.mk hor
          obtain ⟨kc, hkc⟩ := (check_ev hor.valid).rounds
          have HKC := Aside0.mk hkc
          clear hres hor hkc
          go_wp2_with (first | ((with_reducible refine gate_store (t := 4) (p := 81) rfl ?_); refine store_event (t := 4) (p := 81) (v := .const (.bool true)) (w1 := wr.setCell ⟨gd, kk, none⟩ (.bool true)) ?hg ?ho ?hn ?hr ?_; (case ho => rfl); (case hg => rfl); (case hn => rfl); (case hr => first | (go_simp; done) | (go_simp; rfl)); intro u1 hw9; subst hw9; have HO1 := Aside0.mk (HO.out.put kk); have HV1 := Aside0.mk (Kd.V_far (p := ⟨gd, kk, none⟩) HV.out (fun k hk => Nat.ne_of_gt hk) (.bool true)); clear hr0 hr1 hr2 hr3 hr4 hr5; clear hc hfz hgd hgr; generalize wr.setCell ⟨gd, kk, none⟩ (.bool true) = u1 at HO1 HV1 ⊢; have hr0 := (blk_cell HO1.out.br 0).trans (rfl : _ = some (Value.int .i64 (fr))); have hr1 := (blk_cell HO1.out.br 1).trans (rfl : _ = some (Value.int .i64 (fr + (1 + n0)))); have hr2 := (blk_cell HO1.out.br 2).trans (rfl : _ = some (Value.int .i64 (pm))); have hr3 := (blk_cell HO1.out.br 3).trans (rfl : _ = some (Value.int .i64 (2))); have hr4 := (blk_cell HO1.out.br 4).trans (rfl : _ = some (Value.int .i64 ((-1)))); have hr5 := (blk_cell HO1.out.br 5).trans (rfl : _ = some (Value.int .i64 (0))); have hgd := blk_lt HO1.out.bd; have hgr := blk_lt HO1.out.br) | fail)
          refine (region_Add.calls _ _ l _ _ _ _ _ _ res 0 _ (by (with_reducible repeat (first | refine Kd.C_alloc ?_ _)); exact (Kd.V_reads' HV1.out).2.2) (Kd.V_reads' HV1.out).2.1 HRES.out).mono ?_
          rintro e w5 ⟨v5, rfl, ho5, hb5⟩
          have HB5 := Aside0.mk ((below_alloc (Below.refl u1.heap.size u1) _).trans (hb5.mono (by simp)))
          have HO5 := Aside0.mk (HO1.out.below HB5.out)
          have HV5 := Aside0.mk (Kd.V_lower (base' := 0) (Kd.V_mono (ok' := fun k => gd < k) ho5 (fun k hk => by have := hb5.size; simp at hk; omega)) (Nat.zero_le _))
          obtain ⟨A5, c5, e5⟩ := Kd.V_slice ho5
          subst e5
          clear ho5 hb5 HO HV hgd hgr hr0 hr1 hr2 hr3 hr4 hr5
          go_wp2_with fail
          refine (region_Check.calls kc _ _ res 0 _ (Kd.V_reads' HV5.out).2.2 (Kd.V_reads' HV5.out).2.1 HKC.out).mono ?_
          rintro e w6 ⟨rfl, hb6⟩
          have HO6 := Aside0.mk (HO5.out.below hb6)
          have HV6 := Aside0.mk (Kd.V_below HV5.out hb6)
          clear hb6
          go_wp2
          go_roundg k1
          case measure => omega
          case rel => exact ⟨i + 1, res, A5, c5, dn.set kk true, rfl, (by first | rfl | simp), ⟨by have := HK.out; omega⟩, HO6, HOR, HV6, ⟨fun j hj => by
            by_cases hjk : j = kk
            · rw [hjk, List.getD_eq_getElem?_getD, List.getElem?_set_self (by omega)]; rfl
            · rw [List.getD_eq_getElem?_getD, List.getElem?_set_ne (Ne.symm hjk), ← List.getD_eq_getElem?_getD]
              refine HA.out j ?_
              by_cases hji : j + l0.length < i
              · exact hji
              · exact absurd (HJ.out j (by omega)) hjk⟩⟩
      · obtain ⟨kk, hkk⟩ : ∃ kk : Nat, (i : Int) - (l0.length : Int) = (kk : Int) := ⟨i - l0.length, by omega⟩
        have qm1 : (kk : Int) < 1 + n0 := by omega
        have hkj : ∀ j, j + l0.length = i → j = kk := fun j hj => by omega
        have hc : wr.cell? ⟨gd, kk, none⟩ = some (.bool (dn.getD kk false)) := by rw [blk_cell HO.out.bd kk]; simp [show kk < dn.length by omega]
        have hfz := blk_frozen HO.out.bd kk
        have HJ := Aside0.mk hkj
        clear hkj
        cases hb : dn.getD kk false with
        | true =>
          rw [hb] at hc
          have HBT := Aside0.mk hb
          clear hb
          go_wp2
          go_roundg k1
          case measure => omega
          case rel => exact ⟨i + 1, l, A, c, dn, rfl, (by first | rfl | simp), ⟨by have := HK.out; omega⟩, HO, HR, HV, ⟨fun j hj => by
            by_cases hji : j + l0.length < i
            · exact HA.out j hji
            · have e : j = kk := HJ.out j (by omega)
              rw [e]; exact HBT.out⟩⟩
        | false =>
          rw [hb] at hc
          have HBF := Aside0.mk hb
          clear hb
          obtain ⟨res, hres, hor⟩ := HR.out.add M.out kk (show fr + (kk : Int) < fr + (1 + n0) by omega) HBF.out (by omega)
          have HRES := Aside0.mk (show region_Add.f l (fr + (kk : Int)) (fr + (kk : Int) + 1) pm 2 (-1) 0 = some (res, 0) from hres)
          have HOR := Aside0.mk hor
          obtain ⟨kc, hkc⟩ := (check_ev hor.valid).rounds
          have HKC := Aside0.mk hkc
          clear hres hor hkc
          go_wp2_with (first | ((with_reducible refine gate_store (t := 4) (p := 81) rfl ?_); refine store_event (t := 4) (p := 81) (v := .const (.bool true)) (w1 := wr.setCell ⟨gd, kk, none⟩ (.bool true)) ?hg ?ho ?hn ?hr ?_; (case ho => rfl); (case hg => rfl); (case hn => rfl); (case hr => first | (go_simp; done) | (go_simp; rfl)); intro u1 hw9; subst hw9; have HO1 := Aside0.mk (HO.out.put kk); have HV1 := Aside0.mk (Kd.V_far (p := ⟨gd, kk, none⟩) HV.out (fun k hk => Nat.ne_of_gt hk) (.bool true)); clear hr0 hr1 hr2 hr3 hr4 hr5; clear hc hfz hgd hgr; generalize wr.setCell ⟨gd, kk, none⟩ (.bool true) = u1 at HO1 HV1 ⊢; have hr0 := (blk_cell HO1.out.br 0).trans (rfl : _ = some (Value.int .i64 (fr))); have hr1 := (blk_cell HO1.out.br 1).trans (rfl : _ = some (Value.int .i64 (fr + (1 + n0)))); have hr2 := (blk_cell HO1.out.br 2).trans (rfl : _ = some (Value.int .i64 (pm))); have hr3 := (blk_cell HO1.out.br 3).trans (rfl : _ = some (Value.int .i64 (2))); have hr4 := (blk_cell HO1.out.br 4).trans (rfl : _ = some (Value.int .i64 ((-1)))); have hr5 := (blk_cell HO1.out.br 5).trans (rfl : _ = some (Value.int .i64 (0))); have hgd := blk_lt HO1.out.bd; have hgr := blk_lt HO1.out.br) | fail)
          refine (region_Add.calls _ _ l _ _ _ _ _ _ res 0 _ (by (with_reducible repeat (first | refine Kd.C_alloc ?_ _)); exact (Kd.V_reads' HV1.out).2.2) (Kd.V_reads' HV1.out).2.1 HRES.out).mono ?_
          rintro e w5 ⟨v5, rfl, ho5, hb5⟩
          have HB5 := Aside0.mk ((below_alloc (Below.refl u1.heap.size u1) _).trans (hb5.mono (by simp)))
          have HO5 := Aside0.mk (HO1.out.below HB5.out)
          have HV5 := Aside0.mk (Kd.V_lower (base' := 0) (Kd.V_mono (ok' := fun k => gd < k) ho5 (fun k hk => by have := hb5.size; simp at hk; omega)) (Nat.zero_le _))
          obtain ⟨A5, c5, e5⟩ := Kd.V_slice ho5
          subst e5
          clear ho5 hb5 HO HV hgd hgr hr0 hr1 hr2 hr3 hr4 hr5
          go_wp2_with fail
          refine (region_Check.calls kc _ _ res 0 _ (Kd.V_reads' HV5.out).2.2 (Kd.V_reads' HV5.out).2.1 HKC.out).mono ?_
          rintro e w6 ⟨rfl, hb6⟩
          have HO6 := Aside0.mk (HO5.out.below hb6)
          have HV6 := Aside0.mk (Kd.V_below HV5.out hb6)
          clear hb6
          go_wp2
          go_roundg k1
          case measure => omega
          case rel => exact ⟨i + 1, res, A5, c5, dn.set kk true, rfl, (by first | rfl | simp), ⟨by have := HK.out; omega⟩, HO6, HOR, HV6, ⟨fun j hj => by
            by_cases hjk : j = kk
            · rw [hjk, List.getD_eq_getElem?_getD, List.getElem?_set_self (by omega)]; rfl
            · rw [List.getD_eq_getElem?_getD, List.getElem?_set_ne (Ne.symm hjk), ← List.getD_eq_getElem?_getD]
              refine HA.out j ?_
              by_cases hji : j + l0.length < i
              · exact hji
              · exact absurd (HJ.out j (by omega)) hjk⟩⟩
set_option maxHeartbeats 4000000 in
set_option maxRecDepth 100000 in
theorem once_file (A0 : Option Addr) (c0 : Nat) (l0 : List Int) (q0 q1 q2 q3 : Int) (w : World) (hr0 : Kd.C (Kd.int .i64) w A0 l0.length l0) (hc0 : l0.length ≤ c0) (hlen : l0.length * 8 ≤ 140737488351232) (hq : Go.bits .and .i64 q3 1 = 1) :
    Calls Try.prog 7 #[.agg #[.int .i64 q0, .int .i64 q1, .int .i64 q2, .int .i64 q3], .slice A0 l0.length c0] w fun e w' => e = .returned (.bool true) ∧ Below w.heap.size w w' := by
  obtain ⟨ka, hka⟩ := awake_ev.rounds
  have HKA := Aside0.mk hka
  have HR0 := Aside0.mk hr0
  have HC0 := Aside0.mk hc0
  obtain ⟨fr, hfr, f0, f1⟩ : ∃ fr, Go.bits .and .i64 q0 63 = fr ∧ 0 ≤ fr ∧ fr ≤ 63 := ⟨_, rfl, by rw [i64_and63]; omega, by rw [i64_and63]; omega⟩
  obtain ⟨n0, hn0, n00, n01⟩ : ∃ n0, Go.bits .and .i64 q1 15 = n0 ∧ 0 ≤ n0 ∧ n0 ≤ 15 := ⟨_, rfl, by rw [i64_and15]; omega, by rw [i64_and15]; omega⟩
  obtain ⟨pm, hpm, p0, p1⟩ : ∃ pm, Go.bits .and .i64 q2 7 = pm ∧ 0 ≤ pm ∧ pm ≤ 7 := ⟨_, rfl, by rw [i64_and7]; omega, by rw [i64_and7]; omega⟩
  obtain ⟨pn, hpn, pn0, pn1⟩ : ∃ pn, Go.bits .and .i64 (q3 / 2) 255 = pn ∧ 0 ≤ pn ∧ pn ≤ 255 := ⟨_, rfl, by rw [i64_and255]; omega, by rw [i64_and255]; omega⟩
  have M := Aside0.mk (show MayP (⟨fr, fr + (1 + n0), pm, 1, 3, pn⟩ : S41) from ⟨by show 0 ≤ fr; omega, by show fr < fr + (1 + n0); omega, by show fr + (1 + n0) ≤ 4096; omega, p0, p1, .inl ⟨rfl, by show (0 : Int) ≤ 3; omega, pn0, by show pn ≤ 1073741824 - (fr + (1 + n0) - fr); omega⟩⟩)
  have HADD := Aside0.mk (once_whole M.out)
  have hl0 : (l0.length : Int) ≤ 140737488351232 := by omega
  clear hka hr0 hc0 hlen
  go_enter Try.func7, Try.ntmps7
  go_wp2_with ((with_reducible refine gate_dst (N := 2) rfl ?_); refine box_event ?hg (N := 2) ?hd (cs := #[.int .i64 q0, .int .i64 q1, .int .i64 q2, .int .i64 q3]) (t := 39) ?hr ?_; (case hd => rfl); (case hg => rfl); (case hr => first | (go_simp; done) | (go_simp; rfl)); intro gq hgq w1 hbox hb1; have BQ := Aside0.mk hbox; have HW := Aside0.mk hb1; clear hbox hb1 hgq)
  refine (flyleaflaw15_awake.calls ka _ _ HKA.out).mono ?_
  rintro e w2 ⟨rfl, hb2⟩
  have BQ2 := Aside0.mk (blk_below BQ.out hb2)
  have HW2 := Aside0.mk (HW.out.trans (hb2.mono HW.out.size))
  clear BQ HW hb2
  have hq0 := (blk_cell BQ2.out 0).trans (rfl : _ = some (Value.int .i64 q0))
  have hq1 := (blk_cell BQ2.out 1).trans (rfl : _ = some (Value.int .i64 q1))
  have hq2 := (blk_cell BQ2.out 2).trans (rfl : _ = some (Value.int .i64 q2))
  have hq3 := (blk_cell BQ2.out 3).trans (rfl : _ = some (Value.int .i64 q3))
  have hgl := blk_lt BQ2.out
  go_wp2_with fail
  refine (region_Add.calls none 0 ([] : List S41) _ _ _ _ _ _ _ _ _ (Kd.C_nil _ _) (Nat.le_refl _) HADD.out).mono ?_
  rintro e w3 ⟨v9, rfl, ho0, hb⟩
  have W3 := Aside0.mk ((below_alloc (Below.refl w2.heap.size w2) (.cells #[.int .i64 (fr), .int .i64 (fr + (1 + n0)), .int .i64 (pm), .int .i64 (1), .int .i64 (3), .int .i64 (pn)] 41)).trans (hb.mono (by simp)))
  have BR := Aside0.mk (blk_below (blk_new w2 (.cells #[.int .i64 (fr), .int .i64 (fr + (1 + n0)), .int .i64 (pm), .int .i64 (1), .int .i64 (3), .int .i64 (pn)] 41)) hb)
  have GW := Aside0.mk HW2.out.size
  generalize hgr : w2.heap.size = gr at W3 BR GW ⊢
  have HB3 := Aside0.mk (HW2.out.trans (W3.out.mono (by rw [← hgr]; exact HW2.out.size)))
  have HV9 := Aside0.mk (Kd.V_bound ho0)
  obtain ⟨A9, c9, e9⟩ := Kd.V_slice ho0
  subst e9
  clear ho0 hb hq0 hq1 hq2 hq3 hgl W3 HW2 BQ2 hgr
  have GD := Aside0.mk (blk_lt BR.out)
  go_wp2_with ((with_reducible refine gate_dst (N := 12) rfl ?_); refine box_event ?hg (N := 12) ?hd (cs := #[.bool false, .bool false, .bool false, .bool false, .bool false, .bool false, .bool false, .bool false, .bool false, .bool false, .bool false, .bool false, .bool false, .bool false, .bool false, .bool false]) (t := 46) ?hr ?_; (case hd => rfl); (case hg => rfl); (case hr => first | (go_simp; done) | (go_simp; rfl)); intro gd hgd w4 hbox hb4; have HW3 := Aside0.mk (show OnceW gr gd (⟨fr, fr + (1 + n0), pm, 1, 3, pn⟩ : S41) A9 c9 (List.replicate 16 false) w w4 from ⟨hbox, blk_below BR.out hb4, Kd.V_lower (Kd.V_mono (Kd.V_below HV9.out hb4) (fun k hk => by have := hk.2; omega)) (Nat.zero_le _), HB3.out.trans (hb4.mono HB3.out.size), GW.out, by have := GD.out; omega⟩); clear hbox hb4 hgd BR HV9 GW GD)
  go_loopg [11, 13] (l0.length + (1 + n0).toNat) (fun kq v11 v13 wr => ∃ (i : Nat) (l : List S41) (A : Option Addr) (c : Nat) (dn : List Bool), v11 = .slice A l.length c ∧ v13 = .int .i64 (i : Int) ∧ Aside0 (i + kq = l0.length + (1 + n0).toNat) ∧ Aside0 (OnceW gr gd (⟨fr, fr + (1 + n0), pm, 1, 3, pn⟩ : S41) A9 c9 dn w wr) ∧ Aside0 (OnceR (⟨fr, fr + (1 + n0), pm, 1, 3, pn⟩ : S41) dn l) ∧ Aside0 (Kd.V k41 41 wr 0 (fun k => gd < k) (.slice A l.length c) l) ∧ Aside0 (∀ j, j + l0.length < i → dn.getD j false = true))
  case atStart => exact ⟨0, [], none, 0, _, rfl, rfl, ⟨by omega⟩, HW3, ⟨OnceR.start _⟩, ⟨Kd.V_nil _ _ _ _ _⟩, ⟨fun j hj => by omega⟩⟩
  case round =>
    clear HW3 HB3
    obtain ⟨i, l, A, c, dn, rfl, rfl, HK, HO, HR, HV, HA⟩ := hrel
    cases gk with
    | zero =>
      have hi : ¬ (i : Int) < (l0.length : Int) + (1 + n0) := by have := HK.out; omega
      obtain rfl := OnceR.fin M.out HR.out (1 + n0).toNat (by show fr + (1 + n0) = fr + ((1 + n0).toNat : Int); omega) (fun j hj => HA.out j (by have := HK.out; omega))
      obtain ⟨ks, hks⟩ := (same_ev [(⟨fr, fr + (1 + n0), pm, 1, 3, pn⟩ : S41)] (by simp)).rounds
      have HKS := Aside0.mk hks
      clear hks
      go_wp2_with fail
      refine (flyleafref15_Same.calls ks _ _ [(⟨fr, fr + (1 + n0), pm, 1, 3, pn⟩ : S41)] _ _ [(⟨fr, fr + (1 + n0), pm, 1, 3, pn⟩ : S41)] true _ (Kd.V_reads' HV.out).2.2 (Kd.V_reads' HV.out).2.1 (Kd.V_reads' HO.out.wh).2.2 (Kd.V_reads' HO.out.wh).2.1 HKS.out).mono ?_
      rintro e w9 ⟨rfl, hb9⟩
      have HB9 := Aside0.mk (HO.out.bel.trans (hb9.below.mono HO.out.bel.size))
      clear hb9
      go_wp2
      go_ret
      exact ⟨rfl, HB9.out⟩
    | succ k1 =>
      have hi : (i : Int) < (l0.length : Int) + (1 + n0) := by have := HK.out; omega
      have hr0 := (blk_cell HO.out.br 0).trans (rfl : _ = some (Value.int .i64 (fr)))
      have hr1 := (blk_cell HO.out.br 1).trans (rfl : _ = some (Value.int .i64 (fr + (1 + n0))))
      have hr2 := (blk_cell HO.out.br 2).trans (rfl : _ = some (Value.int .i64 (pm)))
      have hr3 := (blk_cell HO.out.br 3).trans (rfl : _ = some (Value.int .i64 (1)))
      have hr4 := (blk_cell HO.out.br 4).trans (rfl : _ = some (Value.int .i64 (3)))
      have hr5 := (blk_cell HO.out.br 5).trans (rfl : _ = some (Value.int .i64 (pn)))
      have hgd := blk_lt HO.out.bd
      have hgr := blk_lt HO.out.br
      have h16 := HR.out.len
      by_cases hil : (i : Int) < (l0.length : Int)
      · obtain ⟨ad, cs, ead, _, hK, hcs⟩ := Kd.C_get (Kd.C_below HR0.out HO.out.bel) (0 : Int) (i : Int) (by omega) hil
        subst ead
        obtain rfl : cs = [.int .i64 (l0.getD (i : Int).toNat 0)] := hK
        have hoi := hcs 0 _ rfl
        simp only [show (Kd.int .i64).sz = 1 from rfl, Int.toNat_natCast, Nat.mul_one, Nat.add_zero] at hoi
        obtain ⟨x, hx⟩ : ∃ x, l0.getD i 0 = x := ⟨_, rfl⟩
        rw [hx] at hoi
        obtain ⟨q, hqx⟩ : ∃ q, x.tmod (1 + n0) = q := ⟨_, rfl⟩
        have hq1 : -(1 + n0) < q ∧ q < 1 + n0 := by rw [← hqx]; exact ⟨by have := Int.lt_tmod_of_pos x (show 0 < 1 + n0 by omega); omega, Int.tmod_lt_of_pos x (by omega)⟩
        obtain ⟨qa, qb⟩ := hq1
        have qm0 := Int.emod_nonneg (q + (1 + n0)) (show 1 + n0 ≠ 0 by omega)
        have qm1 := Int.emod_lt_of_pos (q + (1 + n0)) (show 0 < 1 + n0 by omega)
        obtain ⟨kk, hkk⟩ : ∃ kk : Nat, (q + (1 + n0)) % (1 + n0) = (kk : Int) := ⟨((q + (1 + n0)) % (1 + n0)).toNat, by omega⟩
        rw [hkk] at qm0 qm1
        rw [← Int.tmod_eq_emod_of_nonneg (show 0 ≤ q + (1 + n0) by omega)] at hkk
        have hkj : ∀ j, j + l0.length = i → j = kk := fun j hj => by omega
        clear hx hcs
        have hc : wr.cell? ⟨gd, kk, none⟩ = some (.bool (dn.getD kk false)) := by rw [blk_cell HO.out.bd kk]; simp [show kk < dn.length by omega]
        have hfz := blk_frozen HO.out.bd kk
        have HJ := Aside0.mk hkj
        clear hkj
        cases hb : dn.getD kk false with
        | true =>
          rw [hb] at hc
          have HBT := Aside0.mk hb
          clear hb
          go_wp2
          go_roundg k1
          case measure => omega
          case rel => exact ⟨i + 1, l, A, c, dn, rfl, (by first | rfl | simp), ⟨by have := HK.out; omega⟩, HO, HR, HV, ⟨fun j hj => by
            by_cases hji : j + l0.length < i
            · exact HA.out j hji
            · have e : j = kk := HJ.out j (by omega)
              rw [e]; exact HBT.out⟩⟩
        | false =>
          rw [hb] at hc
          have HBF := Aside0.mk hb
          clear hb
          obtain ⟨res, hres, hor⟩ := HR.out.add M.out kk (show fr + (kk : Int) < fr + (1 + n0) by omega) HBF.out (by omega)
          have HRES := Aside0.mk (show region_Add.f l (fr + (kk : Int)) (fr + (kk : Int) + 1) pm 1 3 (pn + (kk : Int)) = some (res, 0) from hres)
          have HOR := Aside0.mk hor
          obtain ⟨kc, hkc⟩ := (check_ev hor.valid).rounds
          have HKC := Aside0.mk hkc
          clear hres hor hkc
          go_wp2_with (first | ((with_reducible refine gate_store (t := 4) (p := 81) rfl ?_); refine store_event (t := 4) (p := 81) (v := .const (.bool true)) (w1 := wr.setCell ⟨gd, kk, none⟩ (.bool true)) ?hg ?ho ?hn ?hr ?_; (case ho => rfl); (case hg => rfl); (case hn => rfl); (case hr => first | (go_simp; done) | (go_simp; rfl)); intro u1 hw9; subst hw9; have HO1 := Aside0.mk (HO.out.put kk); have HV1 := Aside0.mk (Kd.V_far (p := ⟨gd, kk, none⟩) HV.out (fun k hk => Nat.ne_of_gt hk) (.bool true)); clear hr0 hr1 hr2 hr3 hr4 hr5; clear hc hfz hgd hgr; generalize wr.setCell ⟨gd, kk, none⟩ (.bool true) = u1 at HO1 HV1 ⊢; have hr0 := (blk_cell HO1.out.br 0).trans (rfl : _ = some (Value.int .i64 (fr))); have hr1 := (blk_cell HO1.out.br 1).trans (rfl : _ = some (Value.int .i64 (fr + (1 + n0)))); have hr2 := (blk_cell HO1.out.br 2).trans (rfl : _ = some (Value.int .i64 (pm))); have hr3 := (blk_cell HO1.out.br 3).trans (rfl : _ = some (Value.int .i64 (1))); have hr4 := (blk_cell HO1.out.br 4).trans (rfl : _ = some (Value.int .i64 (3))); have hr5 := (blk_cell HO1.out.br 5).trans (rfl : _ = some (Value.int .i64 (pn))); have hgd := blk_lt HO1.out.bd; have hgr := blk_lt HO1.out.br) | fail)
          refine (region_Add.calls _ _ l _ _ _ _ _ _ res 0 _ (by (with_reducible repeat (first | refine Kd.C_alloc ?_ _)); exact (Kd.V_reads' HV1.out).2.2) (Kd.V_reads' HV1.out).2.1 HRES.out).mono ?_
          rintro e w5 ⟨v5, rfl, ho5, hb5⟩
          have HB5 := Aside0.mk ((below_alloc (Below.refl u1.heap.size u1) _).trans (hb5.mono (by simp)))
          have HO5 := Aside0.mk (HO1.out.below HB5.out)
          have HV5 := Aside0.mk (Kd.V_lower (base' := 0) (Kd.V_mono (ok' := fun k => gd < k) ho5 (fun k hk => by have := hb5.size; simp at hk; omega)) (Nat.zero_le _))
          obtain ⟨A5, c5, e5⟩ := Kd.V_slice ho5
          subst e5
          clear ho5 hb5 HO HV hgd hgr hr0 hr1 hr2 hr3 hr4 hr5
          go_wp2_with fail
          refine (region_Check.calls kc _ _ res 0 _ (Kd.V_reads' HV5.out).2.2 (Kd.V_reads' HV5.out).2.1 HKC.out).mono ?_
          rintro e w6 ⟨rfl, hb6⟩
          have HO6 := Aside0.mk (HO5.out.below hb6)
          have HV6 := Aside0.mk (Kd.V_below HV5.out hb6)
          clear hb6
          go_wp2
          go_roundg k1
          case measure => omega
          case rel => exact ⟨i + 1, res, A5, c5, dn.set kk true, rfl, (by first | rfl | simp), ⟨by have := HK.out; omega⟩, HO6, HOR, HV6, ⟨fun j hj => by
            by_cases hjk : j = kk
            · rw [hjk, List.getD_eq_getElem?_getD, List.getElem?_set_self (by omega)]; rfl
            · rw [List.getD_eq_getElem?_getD, List.getElem?_set_ne (Ne.symm hjk), ← List.getD_eq_getElem?_getD]
              refine HA.out j ?_
              by_cases hji : j + l0.length < i
              · exact hji
              · exact absurd (HJ.out j (by omega)) hjk⟩⟩
      · obtain ⟨kk, hkk⟩ : ∃ kk : Nat, (i : Int) - (l0.length : Int) = (kk : Int) := ⟨i - l0.length, by omega⟩
        have qm1 : (kk : Int) < 1 + n0 := by omega
        have hkj : ∀ j, j + l0.length = i → j = kk := fun j hj => by omega
        have hc : wr.cell? ⟨gd, kk, none⟩ = some (.bool (dn.getD kk false)) := by rw [blk_cell HO.out.bd kk]; simp [show kk < dn.length by omega]
        have hfz := blk_frozen HO.out.bd kk
        have HJ := Aside0.mk hkj
        clear hkj
        cases hb : dn.getD kk false with
        | true =>
          rw [hb] at hc
          have HBT := Aside0.mk hb
          clear hb
          go_wp2
          go_roundg k1
          case measure => omega
          case rel => exact ⟨i + 1, l, A, c, dn, rfl, (by first | rfl | simp), ⟨by have := HK.out; omega⟩, HO, HR, HV, ⟨fun j hj => by
            by_cases hji : j + l0.length < i
            · exact HA.out j hji
            · have e : j = kk := HJ.out j (by omega)
              rw [e]; exact HBT.out⟩⟩
        | false =>
          rw [hb] at hc
          have HBF := Aside0.mk hb
          clear hb
          obtain ⟨res, hres, hor⟩ := HR.out.add M.out kk (show fr + (kk : Int) < fr + (1 + n0) by omega) HBF.out (by omega)
          have HRES := Aside0.mk (show region_Add.f l (fr + (kk : Int)) (fr + (kk : Int) + 1) pm 1 3 (pn + (kk : Int)) = some (res, 0) from hres)
          have HOR := Aside0.mk hor
          obtain ⟨kc, hkc⟩ := (check_ev hor.valid).rounds
          have HKC := Aside0.mk hkc
          clear hres hor hkc
          go_wp2_with (first | ((with_reducible refine gate_store (t := 4) (p := 81) rfl ?_); refine store_event (t := 4) (p := 81) (v := .const (.bool true)) (w1 := wr.setCell ⟨gd, kk, none⟩ (.bool true)) ?hg ?ho ?hn ?hr ?_; (case ho => rfl); (case hg => rfl); (case hn => rfl); (case hr => first | (go_simp; done) | (go_simp; rfl)); intro u1 hw9; subst hw9; have HO1 := Aside0.mk (HO.out.put kk); have HV1 := Aside0.mk (Kd.V_far (p := ⟨gd, kk, none⟩) HV.out (fun k hk => Nat.ne_of_gt hk) (.bool true)); clear hr0 hr1 hr2 hr3 hr4 hr5; clear hc hfz hgd hgr; generalize wr.setCell ⟨gd, kk, none⟩ (.bool true) = u1 at HO1 HV1 ⊢; have hr0 := (blk_cell HO1.out.br 0).trans (rfl : _ = some (Value.int .i64 (fr))); have hr1 := (blk_cell HO1.out.br 1).trans (rfl : _ = some (Value.int .i64 (fr + (1 + n0)))); have hr2 := (blk_cell HO1.out.br 2).trans (rfl : _ = some (Value.int .i64 (pm))); have hr3 := (blk_cell HO1.out.br 3).trans (rfl : _ = some (Value.int .i64 (1))); have hr4 := (blk_cell HO1.out.br 4).trans (rfl : _ = some (Value.int .i64 (3))); have hr5 := (blk_cell HO1.out.br 5).trans (rfl : _ = some (Value.int .i64 (pn))); have hgd := blk_lt HO1.out.bd; have hgr := blk_lt HO1.out.br) | fail)
          refine (region_Add.calls _ _ l _ _ _ _ _ _ res 0 _ (by (with_reducible repeat (first | refine Kd.C_alloc ?_ _)); exact (Kd.V_reads' HV1.out).2.2) (Kd.V_reads' HV1.out).2.1 HRES.out).mono ?_
          rintro e w5 ⟨v5, rfl, ho5, hb5⟩
          have HB5 := Aside0.mk ((below_alloc (Below.refl u1.heap.size u1) _).trans (hb5.mono (by simp)))
          have HO5 := Aside0.mk (HO1.out.below HB5.out)
          have HV5 := Aside0.mk (Kd.V_lower (base' := 0) (Kd.V_mono (ok' := fun k => gd < k) ho5 (fun k hk => by have := hb5.size; simp at hk; omega)) (Nat.zero_le _))
          obtain ⟨A5, c5, e5⟩ := Kd.V_slice ho5
          subst e5
          clear ho5 hb5 HO HV hgd hgr hr0 hr1 hr2 hr3 hr4 hr5
          go_wp2_with fail
          refine (region_Check.calls kc _ _ res 0 _ (Kd.V_reads' HV5.out).2.2 (Kd.V_reads' HV5.out).2.1 HKC.out).mono ?_
          rintro e w6 ⟨rfl, hb6⟩
          have HO6 := Aside0.mk (HO5.out.below hb6)
          have HV6 := Aside0.mk (Kd.V_below HV5.out hb6)
          clear hb6
          go_wp2
          go_roundg k1
          case measure => omega
          case rel => exact ⟨i + 1, res, A5, c5, dn.set kk true, rfl, (by first | rfl | simp), ⟨by have := HK.out; omega⟩, HO6, HOR, HV6, ⟨fun j hj => by
            by_cases hjk : j = kk
            · rw [hjk, List.getD_eq_getElem?_getD, List.getElem?_set_self (by omega)]; rfl
            · rw [List.getD_eq_getElem?_getD, List.getElem?_set_ne (Ne.symm hjk), ← List.getD_eq_getElem?_getD]
              refine HA.out j ?_
              by_cases hji : j + l0.length < i
              · exact hji
              · exact absurd (HJ.out j (by omega)) hjk⟩⟩
end Go.Proofs.Ytafmeagfockdfaa.Rg
