-- PRINTED BY print.sh 35421559b90ae4d0a3588c463048766b98c2df88dd9212a6774a882060cdf62d: not written by this session
import Derived.Test.YtflioeiklcnncaaGreatDoorPRx0
namespace Go.Proofs.YtflioeiklcnncaaGreatDoor.PRing
open Go.RowKit Go.Proofs.YtflioeiklcnncaaGreatDoorW.PrintWords Go.Proofs.YtflioeiklcnncaaGreatDoorW.PrintLast Go.Proofs.YtflioeiklcnncaaGreatDoorW.PrintMore
attribute [local go_sem] max2_int min2_int max_two min_two max_three min_three max_four min_four   -- for this text's walks alone
set_option linter.unusedVariables false
set_option linter.unusedSimpArgs false

/-! ### orloplaw28_small: function 7 -/
mutual
def orloplaw28_small.l0 : Nat → List (S57) → Int → Option (Bool)
  | 0, _, _ => none
  | k + 1, x0, x3 => if x3 < (x0.length : Int) then (orloplaw28_small.j1 k x0 x3 (decide (x3 < 80))) else (orloplaw28_small.j1 k x0 x3 false)
def orloplaw28_small.j1 : Nat → List (S57) → Int → Bool → Option (Bool)
  | 0, _, _, _ => none
  | k + 1, x0, x3, x12 => if x12 = true then (if 0 ≤ x3 then (if x3 < (x0.length : Int) then (if (((rd_T57 x0 x3).f1).size : Int) > 200 then (orloplaw28_small.j2 k x0 x3 true) else (if (((rd_T57 x0 x3).f2).length : Int) > 100 then (orloplaw28_small.j2 k x0 x3 true) else (orloplaw28_small.j2 k x0 x3 (decide ((((rd_T57 x0 x3).f3).length : Int) > 50))))) else (none)) else (none)) else (some true)
def orloplaw28_small.j2 : Nat → List (S57) → Int → Bool → Option (Bool)
  | 0, _, _, _ => none
  | k + 1, x0, x3, x39 => if x39 = true then (some false) else (orloplaw28_small.l1 k x0 x3 0)
def orloplaw28_small.l1 : Nat → List (S57) → Int → Int → Option (Bool)
  | 0, _, _, _ => none
  | k + 1, x0, x3, x4 => if 0 ≤ x3 then (if x3 < (x0.length : Int) then (if x4 < (((rd_T57 x0 x3).f3).length : Int) then (if 0 ≤ x4 then (if ((rdOf ByteArray.empty ((rd_T57 x0 x3).f3) x4).size : Int) > 200 then (some false) else (orloplaw28_small.l1 k x0 x3 (wrap64 (x4 + 1)))) else (none)) else (orloplaw28_small.l0 k x0 (wrap64 (x3 + 1)))) else (none)) else (none)
end
def orloplaw28_small.f (k : Nat) (l0 : List (S57)) : Option (Bool) := orloplaw28_small.l0 k l0 0
theorem orloplaw28_small.mono_l : ∀ k, (∀ y0 y1, LeO (orloplaw28_small.l0 k y0 y1) (orloplaw28_small.l0 (k + 1) y0 y1)) ∧ (∀ y0 y1 y2, LeO (orloplaw28_small.j1 k y0 y1 y2) (orloplaw28_small.j1 (k + 1) y0 y1 y2)) ∧ (∀ y0 y1 y2, LeO (orloplaw28_small.j2 k y0 y1 y2) (orloplaw28_small.j2 (k + 1) y0 y1 y2)) ∧ (∀ y0 y1 y2, LeO (orloplaw28_small.l1 k y0 y1 y2) (orloplaw28_small.l1 (k + 1) y0 y1 y2))
  | 0 => ⟨fun _ _ r h => by simp [orloplaw28_small.l0] at h, fun _ _ _ r h => by simp [orloplaw28_small.j1] at h, fun _ _ _ r h => by simp [orloplaw28_small.j2] at h, fun _ _ _ r h => by simp [orloplaw28_small.l1] at h⟩
  | k + 1 => by
    obtain ⟨ih0, ih1, ih2, ih3⟩ := orloplaw28_small.mono_l k
    refine ⟨?_, ?_, ?_, ?_⟩
    · intro y0 y1
      unfold orloplaw28_small.l0
      repeat' first
      | (with_reducible exact ih0 _ _)
      | (with_reducible exact ih1 _ _ _)
      | (with_reducible exact ih2 _ _ _)
      | (with_reducible exact ih3 _ _ _)
      | (with_reducible exact LeO.refl _)
      | (with_reducible exact LeO.none _)
      | (with_reducible refine LeO.ite ?_ ?_)
      | (with_reducible refine LeO.bind ?_ (fun _ => ?_))
      | exact ih0 _ _
      | exact ih1 _ _ _
      | exact ih2 _ _ _
      | exact ih3 _ _ _
      | exact LeO.none _
      | refine LeO.ite ?_ ?_
      | refine LeO.bind ?_ (fun _ => ?_)
    · intro y0 y1 y2
      unfold orloplaw28_small.j1
      repeat' first
      | (with_reducible exact ih0 _ _)
      | (with_reducible exact ih1 _ _ _)
      | (with_reducible exact ih2 _ _ _)
      | (with_reducible exact ih3 _ _ _)
      | (with_reducible exact LeO.refl _)
      | (with_reducible exact LeO.none _)
      | (with_reducible refine LeO.ite ?_ ?_)
      | (with_reducible refine LeO.bind ?_ (fun _ => ?_))
      | exact ih0 _ _
      | exact ih1 _ _ _
      | exact ih2 _ _ _
      | exact ih3 _ _ _
      | exact LeO.none _
      | refine LeO.ite ?_ ?_
      | refine LeO.bind ?_ (fun _ => ?_)
    · intro y0 y1 y2
      unfold orloplaw28_small.j2
      repeat' first
      | (with_reducible exact ih0 _ _)
      | (with_reducible exact ih1 _ _ _)
      | (with_reducible exact ih2 _ _ _)
      | (with_reducible exact ih3 _ _ _)
      | (with_reducible exact LeO.refl _)
      | (with_reducible exact LeO.none _)
      | (with_reducible refine LeO.ite ?_ ?_)
      | (with_reducible refine LeO.bind ?_ (fun _ => ?_))
      | exact ih0 _ _
      | exact ih1 _ _ _
      | exact ih2 _ _ _
      | exact ih3 _ _ _
      | exact LeO.none _
      | refine LeO.ite ?_ ?_
      | refine LeO.bind ?_ (fun _ => ?_)
    · intro y0 y1 y2
      unfold orloplaw28_small.l1
      repeat' first
      | (with_reducible exact ih0 _ _)
      | (with_reducible exact ih1 _ _ _)
      | (with_reducible exact ih2 _ _ _)
      | (with_reducible exact ih3 _ _ _)
      | (with_reducible exact LeO.refl _)
      | (with_reducible exact LeO.none _)
      | (with_reducible refine LeO.ite ?_ ?_)
      | (with_reducible refine LeO.bind ?_ (fun _ => ?_))
      | exact ih0 _ _
      | exact ih1 _ _ _
      | exact ih2 _ _ _
      | exact ih3 _ _ _
      | exact LeO.none _
      | refine LeO.ite ?_ ?_
      | refine LeO.bind ?_ (fun _ => ?_)
theorem orloplaw28_small.mono : ∀ a0 k, LeO (orloplaw28_small.f k a0) (orloplaw28_small.f (k + 1) a0) := by
  intro a0 k
  obtain ⟨ih0, ih1, ih2, ih3⟩ := orloplaw28_small.mono_l k
  unfold orloplaw28_small.f
  repeat' first
      | (with_reducible exact ih0 _ _)
      | (with_reducible exact ih1 _ _ _)
      | (with_reducible exact ih2 _ _ _)
      | (with_reducible exact ih3 _ _ _)
      | (with_reducible exact LeO.refl _)
      | (with_reducible exact LeO.none _)
      | (with_reducible refine LeO.ite ?_ ?_)
      | (with_reducible refine LeO.bind ?_ (fun _ => ?_))
      | exact ih0 _ _
      | exact ih1 _ _ _
      | exact ih2 _ _ _
      | exact ih3 _ _ _
      | exact LeO.none _
      | refine LeO.ite ?_ ?_
      | refine LeO.bind ?_ (fun _ => ?_)
set_option maxHeartbeats 8000000 in
set_option maxRecDepth 100000 in
theorem orloplaw28_small.calls (k : Nat) (A0 : Option Addr) (c0 : Nat) (l0 : List (S57)) (r : Bool) (w : World) (hr0 : Kd.C k57 w A0 l0.length l0) (hc0 : l0.length ≤ c0) (h : orloplaw28_small.f k l0 = some r) :
    Calls Tryz.prog 7 #[.slice A0 l0.length c0] w fun e w' => e = .returned (.bool r) ∧ Drawn0 w w' := by
  have HR0 := Aside0.mk hr0
  have HC0 := Aside0.mk hc0
  clear hr0 hc0
  have H : (orloplaw28_small.l0 k l0 0) = some r := h
  clear h
  have H' := Aside0.mk H
  clear H
  go_enter Tryz.func7, Tryz.ntmps7
  go_wp2
  go_loopg [3] k (fun kq v3 w' => ∃ (x3_1 : Int), v3 = .int .i64 x3_1 ∧ Aside0 (orloplaw28_small.l0 kq l0 x3_1 = some r) ∧ Aside0 (kq ≤ k) ∧ Drawn0 w w')
  case atStart => exact ⟨(0), (by first | rfl | (simp; done) | (simp [*]; done)), H', ⟨Nat.le_refl _⟩, by repeat (first | exact Drawn0.refl _ | apply Drawn0.step)⟩
  case round =>
    clear H'
    obtain ⟨x3_1, rfl, HA, HK1, ⟨m1, rfl⟩⟩ := hrel
    cases gk with
    | zero => exact absurd HA.out (by simp [orloplaw28_small.l0])
    | succ k1 =>
      have H := HA.out
      clear HA
      simp only [orloplaw28_small.l0] at H
      have HC2 := Aside0.mk H
      clear H
      go_upto_region 2 with (fail)
      go_cut [12] (fun v12 wc => ∃ (kq : Nat) (x12_1 : Bool), v12 = .bool x12_1 ∧ Aside0 (orloplaw28_small.j1 kq l0 x3_1 x12_1 = some r) ∧ Aside0 (kq ≤ k1) ∧ Drawn0 w wc)
      case first =>
        have H := HC2.out
        clear HC2
        by_cases c3 : x3_1 < (l0.length : Int)
        · rw [if_pos c3] at H
          have c3b0 : decide (x3_1 < (l0.length : Int)) = true := decide_eq_true c3
          clear c3
          (first | rw [c3b0] | (simp only [i64_w, i32_w]; rw [c3b0]) | skip)
          have H' := Aside0.mk H
          clear H
          go_wp2
          go_meet
          case rel => exact ⟨_, (decide (x3_1 < 80)), (by first | rfl | (simp; done) | (simp [*]; done)), H', ⟨by have := HK1.out; first | omega | exact Nat.le_refl _⟩, by repeat (first | exact Drawn0.refl _ | apply Drawn0.step)⟩
        · rw [if_neg c3] at H
          have c3b0 : decide (x3_1 < (l0.length : Int)) = false := decide_eq_false c3
          clear c3
          (first | rw [c3b0] | (simp only [i64_w, i32_w]; rw [c3b0]) | skip)
          have H' := Aside0.mk H
          clear H
          go_wp2
          go_meet
          case rel => exact ⟨_, (false), (by first | rfl | (simp; done) | (simp [*]; done)), H', ⟨by have := HK1.out; first | omega | exact Nat.le_refl _⟩, by repeat (first | exact Drawn0.refl _ | apply Drawn0.step)⟩
      case rest =>
        clear HC2
        try clear p2
        try clear c3
        try clear c3b0
        obtain ⟨kq, x12_1, rfl, HA, HJ1, ⟨mc1, rfl⟩⟩ := hcut
        cases kq with
        | zero => exact absurd HA.out (by simp [orloplaw28_small.j1])
        | succ kj1 =>
          have H := HA.out
          clear HA
          simp only [orloplaw28_small.j1] at H
          by_cases c4 : x12_1 = true
          · subst c4
            have H1 : (if 0 ≤ x3_1 then (if x3_1 < (l0.length : Int) then (if (((rd_T57 l0 x3_1).f1).size : Int) > 200 then (orloplaw28_small.j2 kj1 l0 x3_1 true) else (if (((rd_T57 l0 x3_1).f2).length : Int) > 100 then (orloplaw28_small.j2 kj1 l0 x3_1 true) else (orloplaw28_small.j2 kj1 l0 x3_1 (decide ((((rd_T57 l0 x3_1).f3).length : Int) > 50))))) else (none)) else (none)) = some r := by rw [if_pos rfl] at H; exact H
            clear H
            have H := H1
            clear H1
            have HC5 := Aside0.mk H
            clear H
            go_upto_region 4 with (fail)
            go_cut [39] (fun v39 wc => ∃ (kq : Nat) (x39_4 : Bool), v39 = .bool x39_4 ∧ Aside0 (orloplaw28_small.j2 kq l0 x3_1 x39_4 = some r) ∧ Aside0 (kq ≤ kj1) ∧ Drawn0 w wc)
            case first =>
              have H := HC5.out
              clear HC5
              by_cases c6 : 0 ≤ x3_1
              · rw [if_pos c6] at H
                have c6b0 : decide (0 ≤ x3_1) = true := decide_eq_true c6
                clear c6
                (first | rw [c6b0] | (simp only [i64_w, i32_w]; rw [c6b0]) | skip)
                by_cases c7 : x3_1 < (l0.length : Int)
                · rw [if_pos c7] at H
                  have c7b0 : decide (x3_1 < (l0.length : Int)) = true := decide_eq_true c7
                  clear c7
                  by_cases c8 : (((rd_T57 l0 x3_1).f1).size : Int) > 200
                  · rw [if_pos c8] at H
                    have c8b0 : decide (200 < (((rd_T57 l0 x3_1).f1).size : Int)) = true := decide_eq_true c8
                    have c8b1 : decide (200 < ((rd_T57 l0 x3_1).f1).size) = true := decide_eq_true (by omega)
                    clear c8
                    have H' := Aside0.mk H
                    clear H
                    have p108 : 0 ≤ (x3_1 : Int) := of_decide_eq_true (by first | (with_reducible assumption) | assumption)
                    have q108 : x3_1 < (l0.length : Int) := of_decide_eq_true (by first | (with_reducible assumption) | assumption)
                    obtain ⟨ad108, A108_2, c108_2, A108_3, c108_3, e108, hx108_0, hx108_1, hx108_2, hx108_3, hl108_2, hi108_2, hl108_3, hi108_3⟩ := at_T57 HR0.out x3_1 p108 q108
                    cases e108
                    have HR108_2 := Aside0.mk hi108_2
                    have HC108_2 := Aside0.mk hl108_2
                    clear hi108_2 hl108_2
                    have HR108_3 := Aside0.mk hi108_3
                    have HC108_3 := Aside0.mk hl108_3
                    clear hi108_3 hl108_3
                    replace p108 := eq_true p108
                    replace q108 := eq_true q108
                    go_wp2
                    go_meet
                    case rel => exact ⟨_, (true), (by first | rfl | (simp; done) | (simp [*]; done)), H', ⟨by have := HK1.out; have := HJ1.out; first | omega | exact Nat.le_refl _⟩, by repeat (first | exact Drawn0.refl _ | apply Drawn0.step)⟩
                  · rw [if_neg c8] at H
                    have c8b0 : decide (200 < (((rd_T57 l0 x3_1).f1).size : Int)) = false := decide_eq_false c8
                    have c8b1 : decide (200 < ((rd_T57 l0 x3_1).f1).size) = false := decide_eq_false (by omega)
                    clear c8
                    by_cases c9 : (((rd_T57 l0 x3_1).f2).length : Int) > 100
                    · rw [if_pos c9] at H
                      have c9b0 : decide (100 < (((rd_T57 l0 x3_1).f2).length : Int)) = true := decide_eq_true c9
                      have c9b1 : decide (100 < ((rd_T57 l0 x3_1).f2).length) = true := decide_eq_true (by omega)
                      clear c9
                      have H' := Aside0.mk H
                      clear H
                      have p108 : 0 ≤ (x3_1 : Int) := of_decide_eq_true (by first | (with_reducible assumption) | assumption)
                      have q108 : x3_1 < (l0.length : Int) := of_decide_eq_true (by first | (with_reducible assumption) | assumption)
                      obtain ⟨ad108, A108_2, c108_2, A108_3, c108_3, e108, hx108_0, hx108_1, hx108_2, hx108_3, hl108_2, hi108_2, hl108_3, hi108_3⟩ := at_T57 HR0.out x3_1 p108 q108
                      cases e108
                      have HR108_2 := Aside0.mk hi108_2
                      have HC108_2 := Aside0.mk hl108_2
                      clear hi108_2 hl108_2
                      have HR108_3 := Aside0.mk hi108_3
                      have HC108_3 := Aside0.mk hl108_3
                      clear hi108_3 hl108_3
                      replace p108 := eq_true p108
                      replace q108 := eq_true q108
                      have p109 : 0 ≤ (x3_1 : Int) := of_decide_eq_true (by first | (with_reducible assumption) | assumption)
                      have q109 : x3_1 < (l0.length : Int) := of_decide_eq_true (by first | (with_reducible assumption) | assumption)
                      obtain ⟨ad109, A109_2, c109_2, A109_3, c109_3, e109, hx109_0, hx109_1, hx109_2, hx109_3, hl109_2, hi109_2, hl109_3, hi109_3⟩ := at_T57 HR0.out x3_1 p109 q109
                      obtain rfl : ad108 = ad109 := (by injection e109)
                      have HR109_2 := Aside0.mk hi109_2
                      have HC109_2 := Aside0.mk hl109_2
                      clear hi109_2 hl109_2
                      have HR109_3 := Aside0.mk hi109_3
                      have HC109_3 := Aside0.mk hl109_3
                      clear hi109_3 hl109_3
                      replace p109 := eq_true p109
                      replace q109 := eq_true q109
                      have ea_ := Option.some.inj (hx108_2.symm.trans hx109_2)
                      injection ea_ with ea_ en_ ec_
                      subst ea_
                      subst ec_
                      clear en_
                      have ea_ := Option.some.inj (hx108_3.symm.trans hx109_3)
                      injection ea_ with ea_ en_ ec_
                      subst ea_
                      subst ec_
                      clear en_
                      go_wp2
                      go_meet
                      case rel => exact ⟨_, (true), (by first | rfl | (simp; done) | (simp [*]; done)), H', ⟨by have := HK1.out; have := HJ1.out; first | omega | exact Nat.le_refl _⟩, by repeat (first | exact Drawn0.refl _ | apply Drawn0.step)⟩
                    · rw [if_neg c9] at H
                      have c9b0 : decide (100 < (((rd_T57 l0 x3_1).f2).length : Int)) = false := decide_eq_false c9
                      have c9b1 : decide (100 < ((rd_T57 l0 x3_1).f2).length) = false := decide_eq_false (by omega)
                      clear c9
                      have H' := Aside0.mk H
                      clear H
                      have p108 : 0 ≤ (x3_1 : Int) := of_decide_eq_true (by first | (with_reducible assumption) | assumption)
                      have q108 : x3_1 < (l0.length : Int) := of_decide_eq_true (by first | (with_reducible assumption) | assumption)
                      obtain ⟨ad108, A108_2, c108_2, A108_3, c108_3, e108, hx108_0, hx108_1, hx108_2, hx108_3, hl108_2, hi108_2, hl108_3, hi108_3⟩ := at_T57 HR0.out x3_1 p108 q108
                      cases e108
                      have HR108_2 := Aside0.mk hi108_2
                      have HC108_2 := Aside0.mk hl108_2
                      clear hi108_2 hl108_2
                      have HR108_3 := Aside0.mk hi108_3
                      have HC108_3 := Aside0.mk hl108_3
                      clear hi108_3 hl108_3
                      replace p108 := eq_true p108
                      replace q108 := eq_true q108
                      have p109 : 0 ≤ (x3_1 : Int) := of_decide_eq_true (by first | (with_reducible assumption) | assumption)
                      have q109 : x3_1 < (l0.length : Int) := of_decide_eq_true (by first | (with_reducible assumption) | assumption)
                      obtain ⟨ad109, A109_2, c109_2, A109_3, c109_3, e109, hx109_0, hx109_1, hx109_2, hx109_3, hl109_2, hi109_2, hl109_3, hi109_3⟩ := at_T57 HR0.out x3_1 p109 q109
                      obtain rfl : ad108 = ad109 := (by injection e109)
                      have HR109_2 := Aside0.mk hi109_2
                      have HC109_2 := Aside0.mk hl109_2
                      clear hi109_2 hl109_2
                      have HR109_3 := Aside0.mk hi109_3
                      have HC109_3 := Aside0.mk hl109_3
                      clear hi109_3 hl109_3
                      replace p109 := eq_true p109
                      replace q109 := eq_true q109
                      have ea_ := Option.some.inj (hx108_2.symm.trans hx109_2)
                      injection ea_ with ea_ en_ ec_
                      subst ea_
                      subst ec_
                      clear en_
                      have ea_ := Option.some.inj (hx108_3.symm.trans hx109_3)
                      injection ea_ with ea_ en_ ec_
                      subst ea_
                      subst ec_
                      clear en_
                      have p110 : 0 ≤ (x3_1 : Int) := of_decide_eq_true (by first | (with_reducible assumption) | assumption)
                      have q110 : x3_1 < (l0.length : Int) := of_decide_eq_true (by first | (with_reducible assumption) | assumption)
                      obtain ⟨ad110, A110_2, c110_2, A110_3, c110_3, e110, hx110_0, hx110_1, hx110_2, hx110_3, hl110_2, hi110_2, hl110_3, hi110_3⟩ := at_T57 HR0.out x3_1 p110 q110
                      obtain rfl : ad108 = ad110 := (by injection e110)
                      have HR110_2 := Aside0.mk hi110_2
                      have HC110_2 := Aside0.mk hl110_2
                      clear hi110_2 hl110_2
                      have HR110_3 := Aside0.mk hi110_3
                      have HC110_3 := Aside0.mk hl110_3
                      clear hi110_3 hl110_3
                      replace p110 := eq_true p110
                      replace q110 := eq_true q110
                      have ea_ := Option.some.inj (hx108_2.symm.trans hx110_2)
                      injection ea_ with ea_ en_ ec_
                      subst ea_
                      subst ec_
                      clear en_
                      have ea_ := Option.some.inj (hx108_3.symm.trans hx110_3)
                      injection ea_ with ea_ en_ ec_
                      subst ea_
                      subst ec_
                      clear en_
                      go_wp2
                      go_meet
                      case rel => exact ⟨_, (decide ((((rd_T57 l0 x3_1).f3).length : Int) > 50)), (by first | rfl | (simp; done) | (simp [*]; done)), H', ⟨by have := HK1.out; have := HJ1.out; first | omega | exact Nat.le_refl _⟩, by repeat (first | exact Drawn0.refl _ | apply Drawn0.step)⟩
                · rw [if_neg c7] at H
                  exact absurd H (by simp)
              · rw [if_neg c6] at H
                exact absurd H (by simp)
            case rest =>
              clear HC5
              try clear c1
              try clear p1
              try clear q1
              try clear hx1
              try clear p2
              try clear c3
              try clear c3b0
              try clear c4
              try clear c6
              try clear c6b0
              try clear c7
              try clear c7b0
              try clear c8
              try clear c8b0
              try clear c8b1
              try clear c9
              try clear c9b0
              try clear c9b1
              try clear hx108_0
              try clear hx108_1
              try clear hx108_2
              try clear hx108_3
              try clear hx109_0
              try clear hx109_1
              try clear hx109_2
              try clear hx109_3
              try clear hx110_0
              try clear hx110_1
              try clear hx110_2
              try clear hx110_3
              try clear p108
              try clear p109
              try clear p110
              try clear p2
              try clear q108
              try clear q109
              try clear q110
              obtain ⟨kq, x39_4, rfl, HA, HJ4, ⟨mc4, rfl⟩⟩ := hcut
              cases kq with
              | zero => exact absurd HA.out (by simp [orloplaw28_small.j2])
              | succ kj4 =>
                have H := HA.out
                clear HA
                simp only [orloplaw28_small.j2] at H
                by_cases c10 : x39_4 = true
                · subst c10
                  have H1 : (some false) = some r := by rw [if_pos rfl] at H; exact H
                  clear H
                  have H := H1
                  clear H1
                  obtain rfl := Option.some.inj H
                  go_wp2
                  go_ret
                  exact ⟨by first | rfl | (simp; done) | (simp [*]; done), by repeat (first | exact Drawn0.refl _ | apply Drawn0.step)⟩
                · replace c10 := Bool.eq_false_iff.mpr c10
                  subst c10
                  have H1 : (orloplaw28_small.l1 kj4 l0 x3_1 0) = some r := by rw [if_neg (show ¬ (false = true) by decide)] at H; exact H
                  clear H
                  have H := H1
                  clear H1
                  have H' := Aside0.mk H
                  clear H
                  go_wp2
                  go_loopg [4] kj4 (fun kq v4 w' => ∃ (x4_4 : Int), v4 = .int .i64 x4_4 ∧ Aside0 (orloplaw28_small.l1 kq l0 x3_1 x4_4 = some r) ∧ Aside0 (kq ≤ kj4) ∧ Drawn0 w w')
                  case atStart => exact ⟨(0), (by first | rfl | (simp; done) | (simp [*]; done)), H', ⟨Nat.le_refl _⟩, by repeat (first | exact Drawn0.refl _ | apply Drawn0.step)⟩
                  case round =>
                    clear H'
                    try clear c1
                    try clear p1
                    try clear q1
                    try clear hx1
                    try clear p2
                    try clear c3
                    try clear c3b0
                    try clear c4
                    try clear c6
                    try clear c6b0
                    try clear c7
                    try clear c7b0
                    try clear c8
                    try clear c8b0
                    try clear c8b1
                    try clear c9
                    try clear c9b0
                    try clear c9b1
                    try clear c10
                    try clear p10
                    try clear q10
                    try clear hx10
                    try clear hx108_0
                    try clear hx108_1
                    try clear hx108_2
                    try clear hx108_3
                    try clear hx109_0
                    try clear hx109_1
                    try clear hx109_2
                    try clear hx109_3
                    try clear hx110_0
                    try clear hx110_1
                    try clear hx110_2
                    try clear hx110_3
                    try clear p1
                    try clear p108
                    try clear p109
                    try clear p110
                    try clear p2
                    try clear q1
                    try clear q108
                    try clear q109
                    try clear q110
                    obtain ⟨x4_4, rfl, HA, HK4, ⟨m4, rfl⟩⟩ := hrel
                    cases gk with
                    | zero => exact absurd HA.out (by simp [orloplaw28_small.l1])
                    | succ k4 =>
                      have H := HA.out
                      clear HA
                      simp only [orloplaw28_small.l1] at H
                      by_cases c11 : 0 ≤ x3_1
                      · rw [if_pos c11] at H
                        have c11b0 : decide (0 ≤ x3_1) = true := decide_eq_true c11
                        clear c11
                        by_cases c12 : x3_1 < (l0.length : Int)
                        · rw [if_pos c12] at H
                          have c12b0 : decide (x3_1 < (l0.length : Int)) = true := decide_eq_true c12
                          clear c12
                          by_cases c13 : x4_4 < (((rd_T57 l0 x3_1).f3).length : Int)
                          · rw [if_pos c13] at H
                            have c13b0 : decide (x4_4 < (((rd_T57 l0 x3_1).f3).length : Int)) = true := decide_eq_true c13
                            clear c13
                            by_cases c14 : 0 ≤ x4_4
                            · rw [if_pos c14] at H
                              have c14b0 : decide (0 ≤ x4_4) = true := decide_eq_true c14
                              clear c14
                              by_cases c15 : ((rdOf ByteArray.empty ((rd_T57 l0 x3_1).f3) x4_4).size : Int) > 200
                              · rw [if_pos c15] at H
                                have c15b0 : decide (200 < ((rdOf ByteArray.empty ((rd_T57 l0 x3_1).f3) x4_4).size : Int)) = true := decide_eq_true c15
                                have c15b1 : decide (200 < (rdOf ByteArray.empty ((rd_T57 l0 x3_1).f3) x4_4).size) = true := decide_eq_true (by omega)
                                clear c15
                                obtain rfl := Option.some.inj H
                                have p111 : 0 ≤ (x3_1 : Int) := of_decide_eq_true (by first | (with_reducible assumption) | assumption)
                                have q111 : x3_1 < (l0.length : Int) := of_decide_eq_true (by first | (with_reducible assumption) | assumption)
                                obtain ⟨ad111, A111_2, c111_2, A111_3, c111_3, e111, hx111_0, hx111_1, hx111_2, hx111_3, hl111_2, hi111_2, hl111_3, hi111_3⟩ := at_T57 HR0.out x3_1 p111 q111
                                cases e111
                                have HR111_2 := Aside0.mk hi111_2
                                have HC111_2 := Aside0.mk hl111_2
                                clear hi111_2 hl111_2
                                have HR111_3 := Aside0.mk hi111_3
                                have HC111_3 := Aside0.mk hl111_3
                                clear hi111_3 hl111_3
                                replace p111 := eq_true p111
                                replace q111 := eq_true q111
                                have p112 : 0 ≤ (x3_1 : Int) := of_decide_eq_true (by first | (with_reducible assumption) | assumption)
                                have q112 : x3_1 < (l0.length : Int) := of_decide_eq_true (by first | (with_reducible assumption) | assumption)
                                obtain ⟨ad112, A112_2, c112_2, A112_3, c112_3, e112, hx112_0, hx112_1, hx112_2, hx112_3, hl112_2, hi112_2, hl112_3, hi112_3⟩ := at_T57 HR0.out x3_1 p112 q112
                                obtain rfl : ad111 = ad112 := (by injection e112)
                                have HR112_2 := Aside0.mk hi112_2
                                have HC112_2 := Aside0.mk hl112_2
                                clear hi112_2 hl112_2
                                have HR112_3 := Aside0.mk hi112_3
                                have HC112_3 := Aside0.mk hl112_3
                                clear hi112_3 hl112_3
                                replace p112 := eq_true p112
                                replace q112 := eq_true q112
                                have ea_ := Option.some.inj (hx111_2.symm.trans hx112_2)
                                injection ea_ with ea_ en_ ec_
                                subst ea_
                                subst ec_
                                clear en_
                                have ea_ := Option.some.inj (hx111_3.symm.trans hx112_3)
                                injection ea_ with ea_ en_ ec_
                                subst ea_
                                subst ec_
                                clear en_
                                have p113 : 0 ≤ (x4_4 : Int) := of_decide_eq_true (by first | (with_reducible assumption) | assumption)
                                have q113 : x4_4 < (((rd_T57 l0 x3_1).f3).length : Int) := of_decide_eq_true (by first | (with_reducible assumption) | assumption)
                                obtain ⟨ad113, e113, hx113_0⟩ := Kd.at_string HR112_3.out x4_4 p113 q113
                                cases e113
                                replace p113 := eq_true p113
                                replace q113 := eq_true q113
                                go_wp2
                                go_ret
                                exact ⟨by first | rfl | (simp; done) | (simp [*]; done), by repeat (first | exact Drawn0.refl _ | apply Drawn0.step)⟩
                              · rw [if_neg c15] at H
                                have c15b0 : decide (200 < ((rdOf ByteArray.empty ((rd_T57 l0 x3_1).f3) x4_4).size : Int)) = false := decide_eq_false c15
                                have c15b1 : decide (200 < (rdOf ByteArray.empty ((rd_T57 l0 x3_1).f3) x4_4).size) = false := decide_eq_false (by omega)
                                clear c15
                                have H' := Aside0.mk H
                                clear H
                                have p111 : 0 ≤ (x3_1 : Int) := of_decide_eq_true (by first | (with_reducible assumption) | assumption)
                                have q111 : x3_1 < (l0.length : Int) := of_decide_eq_true (by first | (with_reducible assumption) | assumption)
                                obtain ⟨ad111, A111_2, c111_2, A111_3, c111_3, e111, hx111_0, hx111_1, hx111_2, hx111_3, hl111_2, hi111_2, hl111_3, hi111_3⟩ := at_T57 HR0.out x3_1 p111 q111
                                cases e111
                                have HR111_2 := Aside0.mk hi111_2
                                have HC111_2 := Aside0.mk hl111_2
                                clear hi111_2 hl111_2
                                have HR111_3 := Aside0.mk hi111_3
                                have HC111_3 := Aside0.mk hl111_3
                                clear hi111_3 hl111_3
                                replace p111 := eq_true p111
                                replace q111 := eq_true q111
                                have p112 : 0 ≤ (x3_1 : Int) := of_decide_eq_true (by first | (with_reducible assumption) | assumption)
                                have q112 : x3_1 < (l0.length : Int) := of_decide_eq_true (by first | (with_reducible assumption) | assumption)
                                obtain ⟨ad112, A112_2, c112_2, A112_3, c112_3, e112, hx112_0, hx112_1, hx112_2, hx112_3, hl112_2, hi112_2, hl112_3, hi112_3⟩ := at_T57 HR0.out x3_1 p112 q112
                                obtain rfl : ad111 = ad112 := (by injection e112)
                                have HR112_2 := Aside0.mk hi112_2
                                have HC112_2 := Aside0.mk hl112_2
                                clear hi112_2 hl112_2
                                have HR112_3 := Aside0.mk hi112_3
                                have HC112_3 := Aside0.mk hl112_3
                                clear hi112_3 hl112_3
                                replace p112 := eq_true p112
                                replace q112 := eq_true q112
                                have ea_ := Option.some.inj (hx111_2.symm.trans hx112_2)
                                injection ea_ with ea_ en_ ec_
                                subst ea_
                                subst ec_
                                clear en_
                                have ea_ := Option.some.inj (hx111_3.symm.trans hx112_3)
                                injection ea_ with ea_ en_ ec_
                                subst ea_
                                subst ec_
                                clear en_
                                have p113 : 0 ≤ (x4_4 : Int) := of_decide_eq_true (by first | (with_reducible assumption) | assumption)
                                have q113 : x4_4 < (((rd_T57 l0 x3_1).f3).length : Int) := of_decide_eq_true (by first | (with_reducible assumption) | assumption)
                                obtain ⟨ad113, e113, hx113_0⟩ := Kd.at_string HR112_3.out x4_4 p113 q113
                                cases e113
                                replace p113 := eq_true p113
                                replace q113 := eq_true q113
                                go_wp2
                                go_roundg k4
                                case measure => have := HK1.out; have := HJ1.out; have := HJ4.out; have := HK4.out; omega
                                case rel => exact ⟨(wrap64 (x4_4 + 1)), (by first | rfl | (simp; done) | (simp [*]; done)), H', ⟨by have := HK1.out; have := HJ1.out; have := HJ4.out; have := HK4.out; omega⟩, by repeat (first | exact Drawn0.refl _ | apply Drawn0.step)⟩
                            · rw [if_neg c14] at H
                              exact absurd H (by simp)
                          · rw [if_neg c13] at H
                            have c13b0 : decide (x4_4 < (((rd_T57 l0 x3_1).f3).length : Int)) = false := decide_eq_false c13
                            clear c13
                            have H' := Aside0.mk H
                            clear H
                            have p111 : 0 ≤ (x3_1 : Int) := of_decide_eq_true (by first | (with_reducible assumption) | assumption)
                            have q111 : x3_1 < (l0.length : Int) := of_decide_eq_true (by first | (with_reducible assumption) | assumption)
                            obtain ⟨ad111, A111_2, c111_2, A111_3, c111_3, e111, hx111_0, hx111_1, hx111_2, hx111_3, hl111_2, hi111_2, hl111_3, hi111_3⟩ := at_T57 HR0.out x3_1 p111 q111
                            cases e111
                            have HR111_2 := Aside0.mk hi111_2
                            have HC111_2 := Aside0.mk hl111_2
                            clear hi111_2 hl111_2
                            have HR111_3 := Aside0.mk hi111_3
                            have HC111_3 := Aside0.mk hl111_3
                            clear hi111_3 hl111_3
                            replace p111 := eq_true p111
                            replace q111 := eq_true q111
                            go_wp2
                            go_roundg k4
                            case measure => have := HK1.out; have := HJ1.out; have := HJ4.out; have := HK4.out; omega
                            case rel => exact ⟨(wrap64 (x3_1 + 1)), (by first | rfl | (simp; done) | (simp [*]; done)), H', ⟨by have := HK1.out; have := HJ1.out; have := HJ4.out; have := HK4.out; omega⟩, by repeat (first | exact Drawn0.refl _ | apply Drawn0.step)⟩
                        · rw [if_neg c12] at H
                          exact absurd H (by simp)
                      · rw [if_neg c11] at H
                        exact absurd H (by simp)
          · replace c4 := Bool.eq_false_iff.mpr c4
            subst c4
            have H1 : (some true) = some r := by rw [if_neg (show ¬ (false = true) by decide)] at H; exact H
            clear H
            have H := H1
            clear H1
            obtain rfl := Option.some.inj H
            go_wp2
            go_ret
            exact ⟨by first | rfl | (simp; done) | (simp [*]; done), by repeat (first | exact Drawn0.refl _ | apply Drawn0.step)⟩

/-! ### orlopref28_In: function 19 -/
def orlopref28_In.l0 : Nat → List ByteArray → ByteArray → Int → Option (Bool)
  | 0, _, _, _ => none
  | k + 1, x0, x1, x5 => if x5 < (x0.length : Int) then (if 0 ≤ x5 then (if (rdOf ByteArray.empty x0 x5).toList = x1.toList then (some true) else (orlopref28_In.l0 k x0 x1 (wrap64 (x5 + 1)))) else (none)) else (some false)
def orlopref28_In.f (k : Nat) (l0 : List ByteArray) (a1 : ByteArray) : Option (Bool) := orlopref28_In.l0 k l0 a1 0
theorem orlopref28_In.mono_l : ∀ k, (∀ y0 y1 y2, LeO (orlopref28_In.l0 k y0 y1 y2) (orlopref28_In.l0 (k + 1) y0 y1 y2))
  | 0 => fun _ _ _ r h => by simp [orlopref28_In.l0] at h
  | k + 1 => by
    have ih0 := orlopref28_In.mono_l k
    · intro y0 y1 y2
      unfold orlopref28_In.l0
      repeat' first
      | (with_reducible exact ih0 _ _ _)
      | (with_reducible exact LeO.refl _)
      | (with_reducible exact LeO.none _)
      | (with_reducible refine LeO.ite ?_ ?_)
      | (with_reducible refine LeO.bind ?_ (fun _ => ?_))
      | exact ih0 _ _ _
      | exact LeO.none _
      | refine LeO.ite ?_ ?_
      | refine LeO.bind ?_ (fun _ => ?_)
theorem orlopref28_In.mono : ∀ a0 a1 k, LeO (orlopref28_In.f k a0 a1) (orlopref28_In.f (k + 1) a0 a1) := by
  intro a0 a1 k
  have ih0 := orlopref28_In.mono_l k
  unfold orlopref28_In.f
  repeat' first
      | (with_reducible exact ih0 _ _ _)
      | (with_reducible exact LeO.refl _)
      | (with_reducible exact LeO.none _)
      | (with_reducible refine LeO.ite ?_ ?_)
      | (with_reducible refine LeO.bind ?_ (fun _ => ?_))
      | exact ih0 _ _ _
      | exact LeO.none _
      | refine LeO.ite ?_ ?_
      | refine LeO.bind ?_ (fun _ => ?_)
set_option maxHeartbeats 8000000 in
set_option maxRecDepth 100000 in
theorem orlopref28_In.calls (k : Nat) (A0 : Option Addr) (c0 : Nat) (l0 : List ByteArray) (a1 : ByteArray) (r : Bool) (w : World) (hr0 : Kd.C Kd.string w A0 l0.length l0) (hc0 : l0.length ≤ c0) (h : orlopref28_In.f k l0 a1 = some r) :
    Calls Tryz.prog 19 #[.slice A0 l0.length c0, .string a1] w fun e w' => e = .returned (.bool r) ∧ Drawn0 w w' := by
  have HR0 := Aside0.mk hr0
  have HC0 := Aside0.mk hc0
  clear hr0 hc0
  have H : (orlopref28_In.l0 k l0 a1 0) = some r := h
  clear h
  have H' := Aside0.mk H
  clear H
  go_enter Tryz.func19, Tryz.ntmps19
  go_wp2
  go_loopg [5] k (fun kq v5 w' => ∃ (x5_1 : Int), v5 = .int .i64 x5_1 ∧ Aside0 (orlopref28_In.l0 kq l0 a1 x5_1 = some r) ∧ Aside0 (kq ≤ k) ∧ Drawn0 w w')
  case atStart => exact ⟨(0), (by first | rfl | (simp; done) | (simp [*]; done)), H', ⟨Nat.le_refl _⟩, by repeat (first | exact Drawn0.refl _ | apply Drawn0.step)⟩
  case round =>
    clear H'
    try clear c1
    try clear p2
    obtain ⟨x5_1, rfl, HA, HK1, ⟨m1, rfl⟩⟩ := hrel
    cases gk with
    | zero => exact absurd HA.out (by simp [orlopref28_In.l0])
    | succ k1 =>
      have H := HA.out
      clear HA
      simp only [orlopref28_In.l0] at H
      by_cases c3 : x5_1 < (l0.length : Int)
      · rw [if_pos c3] at H
        have c3b0 : decide (x5_1 < (l0.length : Int)) = true := decide_eq_true c3
        clear c3
        by_cases c4 : 0 ≤ x5_1
        · rw [if_pos c4] at H
          have c4b0 : decide (0 ≤ x5_1) = true := decide_eq_true c4
          clear c4
          by_cases c5 : (rdOf ByteArray.empty l0 x5_1).toList = a1.toList
          · rw [if_pos c5] at H
            have c5b0 : ((rdOf ByteArray.empty l0 x5_1).toList == a1.toList) = true := beq_iff_eq.mpr c5
            have c5b1 : ((rdOf ByteArray.empty l0 x5_1).toList != a1.toList) = false := bne_eq_false_iff_eq.mpr c5
            clear c5
            obtain rfl := Option.some.inj H
            have p114 : 0 ≤ (x5_1 : Int) := of_decide_eq_true (by first | (with_reducible assumption) | assumption)
            have q114 : x5_1 < (l0.length : Int) := of_decide_eq_true (by first | (with_reducible assumption) | assumption)
            obtain ⟨ad114, e114, hx114_0⟩ := Kd.at_string HR0.out x5_1 p114 q114
            cases e114
            replace p114 := eq_true p114
            replace q114 := eq_true q114
            go_wp2
            go_ret
            exact ⟨by first | rfl | (simp; done) | (simp [*]; done), by repeat (first | exact Drawn0.refl _ | apply Drawn0.step)⟩
          · rw [if_neg c5] at H
            have c5b0 : ((rdOf ByteArray.empty l0 x5_1).toList == a1.toList) = false := beq_eq_false_iff_ne.mpr c5
            have c5b1 : ((rdOf ByteArray.empty l0 x5_1).toList != a1.toList) = true := bne_iff_ne.mpr c5
            have H' := Aside0.mk H
            clear H
            have p114 : 0 ≤ (x5_1 : Int) := of_decide_eq_true (by first | (with_reducible assumption) | assumption)
            have q114 : x5_1 < (l0.length : Int) := of_decide_eq_true (by first | (with_reducible assumption) | assumption)
            obtain ⟨ad114, e114, hx114_0⟩ := Kd.at_string HR0.out x5_1 p114 q114
            cases e114
            replace p114 := eq_true p114
            replace q114 := eq_true q114
            go_wp2
            go_roundg k1
            case measure => have := HK1.out; omega
            case rel => exact ⟨(wrap64 (x5_1 + 1)), (by first | rfl | (simp; done) | (simp [*]; done)), H', ⟨by have := HK1.out; omega⟩, by repeat (first | exact Drawn0.refl _ | apply Drawn0.step)⟩
        · rw [if_neg c4] at H
          exact absurd H (by simp)
      · rw [if_neg c3] at H
        have c3b0 : decide (x5_1 < (l0.length : Int)) = false := decide_eq_false c3
        clear c3
        obtain rfl := Option.some.inj H
        go_wp2
        go_ret
        exact ⟨by first | rfl | (simp; done) | (simp [*]; done), by repeat (first | exact Drawn0.refl _ | apply Drawn0.step)⟩

end Go.Proofs.YtflioeiklcnncaaGreatDoor.PRing
