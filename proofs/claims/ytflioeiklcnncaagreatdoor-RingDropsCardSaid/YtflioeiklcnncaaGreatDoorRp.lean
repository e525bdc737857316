/- RingDrops' walk. -/
import Derived.Test.YtflioeiklcnncaaGreatDoorRf
import Derived.Test.YtflioeiklcnncaaGreatDoorRo
import Derived.Deep.QuietTactic
import Derived.BigQuiet
import Derived.Deep.RegionHeld3
set_option linter.unusedVariables false
set_option linter.unusedSimpArgs false
namespace Go.Proofs.YtflioeiklcnncaaGreatDoor.Ri
open Go.RowKit Go.Maps Go.Sort Go.Proofs.YtflioeiklcnncaaGreatDoorW.PrintWords Go.Proofs.YtflioeiklcnncaaGreatDoor.PRing

theorem rws_lit {w : World} {b : Nat} {ok : Nat → Prop} {A : Option Addr} {c : Nat} {pt : B} (h : w.heap[b]? = some (.cells #[.slice A pt.length c] 24 (0, 0))) (hv : Bts w ok (.slice A pt.length c) pt) : Rws w (fun k => k = b ∨ ok k) (.slice (some ⟨b, 0, none⟩) 1 1) [pt] := by
  obtain ⟨A', c', e, hl, hf⟩ := hv
  rw [ints_length] at e hl hf
  injection e with e1 e2 e3
  subst e1; subst e3
  refine ⟨some ⟨b, 0, none⟩, 1, rfl, Nat.le_refl _, fun W' hW => ⟨rfl, by simp, fun _ => ⟨_, rfl, fun j p hj => ?_⟩⟩⟩
  have h2 := hW b (.inl rfl) (Array.getElem?_eq_some_iff.1 h).1
  have hb : W'.heap[b]? = some (.cells #[.slice A pt.length c] 24 (0, 0)) := h2.trans h
  have hj0 : j = 0 := by
    have := (List.getElem?_eq_some_iff.1 hj).1
    simp at this; omega
  subst hj0
  simp only [List.map_cons, List.map_nil, List.getElem?_cons_zero, Option.some.injEq] at hj
  subst hj
  have hK := Kd.FK_slice_mk (e := 5) (d := Kd.int .u8) (l := ints pt) (c := c) (A := A) (by rw [ints_length]; exact hl) (by rw [ints_length]; exact hf)
  rw [ints_length] at hK
  refine ⟨[.slice A pt.length c], rfl, hK W' (fun k hk hlt => hW k (.inr hk) hlt), fun i u hu => ?_⟩
  have hi0 : i = 0 := by
    have := (List.getElem?_eq_some_iff.1 hu).1
    simp at this; omega
  subst hi0
  simp only [List.getElem?_cons_zero, Option.some.injEq] at hu
  subst hu
  simp [World.cell?, Addr.add, hb]
set_option maxRecDepth 100000 in
set_option maxHeartbeats 8000000 in
theorem Drops5 {W : World} {A : Option Addr} {c : Nat} {ls : List Stp} (hl : ls.length ≤ c) (hF : Kd.F k57 W (fun k => k < W.heap.size) A (ls.map stp).length (ls.map stp)) :
    Calls Tryz.prog 5 #[.slice A ls.length c] W fun e w' => e = .returned (.bool true) ∧ Below W.heap.size W w' := by
  have hm3 := Kd.F_max hF
  rw [List.length_map] at hm3
  have HF := Aside0.mk hF
  have HL := Aside0.mk hl
  clear hF hl
  go_enter Tryz.func5, Tryz.ntmps5
  go_wp2_with fail
  (with_reducible refine (awake6 W).mono ?_)
  rintro e w1 ⟨rfl, hb1⟩
  have hF1 := Kd.F_below HF.out hb1
  have hlen : (ls.map stp).length = ls.length := List.length_map ..
  have hsm := small7 (c := c) (Kd.F_now hF1) (by rw [hlen]; exact HL.out)
  rw [hlen] at hsm
  have HSM := Aside0.mk hsm
  have HB1 := Aside0.mk hb1
  clear hF1 hlen hsm hb1
  go_wp2_with fail
  (with_reducible refine HSM.out.mono ?_)
  rintro e w2 ⟨b, rfl, ⟨n2, rfl⟩, hgood⟩
  have HB2 := Aside0.mk (HB1.out.trans ((pw_below_drewN (Below.refl _ w1) n2).mono HB1.out.size))
  have HGD := Aside0.mk hgood
  clear hgood
  cases b with
  | false =>
    as_aux_lemma =>
    go_wp2_with fail
    go_ret
    exact ⟨rfl, HB2.out⟩
  | true =>
    have hgs : ∀ j, (hj : j < ls.length) → j < 80 → goodStep (stp ls[j]) := fun j hj hj8 => by
      have := HGD.out rfl j (by simpa using hj) hj8
      simpa using this
    have HGS := Aside0.mk hgs
    clear hgs
    go_wp2_with fail
    (with_reducible refine (New_calls _).mono ?_)
    rintro e w3 ⟨rfl, hr3, hb3⟩
    have hboth := both0 hr3
    obtain ⟨w4, hw4⟩ : ∃ w4, w4 = w3.alloc refO := ⟨_, rfl⟩
    rw [← hw4] at hboth
    have hb4 : Below w3.heap.size w3 w4 := by rw [hw4]; exact al_below _ (Below.refl _ _)
    have hb03 : Below W.heap.size W w3 := HB2.out.trans (hb3.mono HB2.out.size)
    have hb04 : Below W.heap.size W w4 := hb03.trans (hb4.mono hb03.size)
    have hbp : W.heap.size ≤ (w1.drewN n2).heap.size := HB2.out.size
    have hq3 : (w1.drewN n2).heap.size + 1 + 1 < w3.heap.size := hr3.rlt
    have hrun := run9 hboth (by omega) hboth.fresh (K := W.heap.size) HL.out (Kd.F_below HF.out hb04) (by omega) HGS.out
    have HRUN := Aside0.mk hrun
    have HW4 := Aside0.mk (show w3.alloc (.cells #[.slice none 0 0, .slice none 0 0] 33) = w4 from hw4.symm)
    have HB4 := Aside0.mk hb04
    generalize hbpn : (w1.drewN n2).heap.size = bp at HRUN hbp hq3 ⊢
    clear hrun hw4 hb3 hb4 hb03 hb04 hboth hr3 hbpn
    go_wp2_with fail
    rw [HW4.out]
    (with_reducible refine HRUN.out.mono ?_)
    rintro e w5 ⟨s, rfl, hb5, ht5⟩
    have hB5 : Below W.heap.size W w5 := HB4.out.trans (ht5.below (fun k hk => by unfold S3q at hk; omega) HB4.out.size)
    have HB5 := Aside0.mk hB5
    have HBO := Aside0.mk hb5
    have HI := Aside0.mk hb5.inv
    clear hb5 ht5 hB5 HRUN HW4 HB4
    have hord := Order_calls HBO.out.ring HI.out.good.toSmlG
    have HORD := Aside0.mk hord
    clear hord
    go_wp2_with fail
    (with_reducible refine HORD.out.mono ?_)
    rintro e w6 ⟨v6, out, rfl, hv6, hs6, hb6⟩
    obtain ⟨Ao, co, rfl, hlo, hfo⟩ := hv6
    rw [List.length_map]
    rw [List.length_map] at hlo hfo
    have hol : out.length ≤ 32 := Nat.le_trans (ord_len hs6.1) HI.out.gl
    have hr6 := HBO.out.ring.below hb6
    have hsz6 := HBO.out.ring.lts
    have HR6 := Aside0.mk (show RingAt w6 (okR bp (bp + 1) w3.heap.size) (bp + 1 + 1) bp (bp + 1) (gLeft s out out.length) by rw [gLeft_all HI.out hs6]; exact hr6)
    have HFO := Aside0.mk hfo
    have HS6 := Aside0.mk hs6
    have HB6 := Aside0.mk (HB5.out.trans (hb6.mono HB5.out.size))
    have HPB := Aside0.mk hsz6
    clear hr6 hfo hs6 hb6 HBO HB5 HORD hlo hsz6
    go_wp2_with fail
    go_loopw [6] (fun i wr => ∃ x : Int, -1 ≤ x ∧ x < out.length ∧ i = .int .i64 x ∧ RingAt wr (okR bp (bp + 1) w3.heap.size) (bp + 1 + 1) bp (bp + 1) (gLeft s out (x + 1).toNat) ∧ Turn (fun k => k = bp ∨ k = bp + 1) w6 wr) (fun i _ => (intOf i + 1).toNat)
    case atStart => exact ⟨(out.length : Int) - 1, by omega, by omega, rfl, by rw [show ((out.length : Int) - 1 + 1).toNat = out.length by omega]; exact HR6.out, Turn.refl _ _⟩
    case round =>
      obtain ⟨x, hx0, hx1, rfl, hr, ht⟩ := hrel
      by_cases hx : 0 ≤ x
      · have hj : x.toNat < out.length := by omega
        have hF : Kd.F Kd.string wr (fun k => w5.heap.size ≤ k) Ao out.length (out.map mkS) := Kd.F_step HFO.out (fun k hk hlt => ht.block k hlt (fun e => by have := HPB.out; omega))
        obtain ⟨ad, hA, hcell⟩ := str_at hF hj
        subst hA
        have hnm := nameOK_len (HI.out.thn (show there s out[x.toNat] = true by unfold there; rw [(ord_in HS6.out.1 (List.getElem_mem hj)).1, Bool.or_true]))
        have hd1 := drop_group HI.out HS6.out hj
        have hd2 := drop_gone HI.out HS6.out hj
        rw [show (x + 1).toNat = x.toNat + 1 by omega] at hr
        have hd1' : drop1 (gLeft s out (x.toNat + 1)) (bz (mkS out[x.toNat])) = (0, gLeft s out x.toNat) := by rw [bz_mkS]; exact hd1
        have hd2' : drop1 (gLeft s out x.toNat) (bz (mkS out[x.toNat])) = (4, gLeft s out x.toNat) := by rw [bz_mkS]; exact hd2
        generalize out[x.toNat] = nm at hcell hnm hd1' hd2' hd1 hd2
        have hc1 := Drop_calls hr (mkS nm) (by rw [mkS_size]; omega)
        rw [hd1'] at hc1
        have HC1 := Aside0.mk hc1
        have HT := Aside0.mk ht
        have HD2 := Aside0.mk hd2'
        have HCELL := Aside0.mk hcell
        have HNM := Aside0.mk hnm
        have hbad : ¬ (ad.add x.toNat).block = bp ∧ ¬ (ad.add x.toNat).block = bp + 1 := by
          have h9 := Kd.F_in hF rfl (by omega) (by decide)
          have h10 : (ad.add x.toNat).block = ad.block := by unfold Addr.add; split <;> rfl
          have := HPB.out
          rw [h10]
          omega
        have HBAD := Aside0.mk hbad
        clear hd1 hd2 hd1' hd2' hc1 hr ht hF hnm hbad
        as_aux_lemma =>
        go_wp2_with fail
        (with_reducible refine HC1.out.mono ?_)
        rintro e w7 ⟨rfl, hr7, ht7⟩
        have hcell7 := ht7.cell HCELL.out (fun e => e.elim HBAD.out.1 HBAD.out.2)
        have hc2 := Drop_calls hr7 (mkS nm) (by rw [mkS_size]; have := HNM.out; omega)
        simp only at hc2
        rw [HD2.out] at hc2
        have HC2 := Aside0.mk hc2
        have HT7 := Aside0.mk (HT.out.trans ht7)
        clear hc2 hr7 ht7 hcell
        go_wp2_with fail
        (with_reducible refine HC2.out.mono ?_)
        rintro e w8 ⟨rfl, hr8, ht8⟩
        have HR8 := Aside0.mk hr8
        have HT8 := Aside0.mk (HT7.out.trans ht8)
        clear hr8 ht8 hcell7
        go_wp2_with fail
        go_roundw
        case measure => simp [intOf]; omega
        case rel => exact ⟨x - 1, by omega, by omega, by go_num, by rw [show (x - 1 + 1).toNat = x.toNat by omega]; exact HR8.out, HT8.out⟩
      · obtain rfl : x = -1 := by omega
        have hr0 : RingAt wr (okR bp (bp + 1) w3.heap.size) (bp + 1 + 1) bp (bp + 1) (pLeft s 0) := by
          have e : pLeft s 0 = gLeft s out 0 := by rw [gLeft_zero]; rfl
          rw [e]
          exact hr
        have hi0 : RInv (pLeft s 0) := by
          have e : pLeft s 0 = gLeft s out 0 := by rw [gLeft_zero]; rfl
          rw [e]
          exact gLeft_inv HI.out HS6.out out.length 0 (by omega)
        have hpp := People_calls hr0 hi0.good.p hi0.good.ps
        have HPP := Aside0.mk hpp
        have HR0 := Aside0.mk hr0
        have HI0 := Aside0.mk hi0
        have HT0 := Aside0.mk ht
        obtain ⟨wq, hwq⟩ : ∃ wq : World, wq = wr := ⟨_, rfl⟩
        subst hwq
        clear hpp hr hr0 hi0 ht
        as_aux_lemma =>
        go_wp2_with fail
        (with_reducible refine HPP.out.mono ?_)
        rintro e w8 ⟨v8, rfl, hv8, hb8⟩
        obtain ⟨Ap, cp, rfl, hlp, hfp⟩ := hv8
        rw [List.length_map]
        rw [show (pLeft s 0).P.length = s.P.length from rfl]
        have hfp' : Kd.F k50 w8 (fun k => wq.heap.size ≤ k) Ap (s.P.map person).length (s.P.map person) := hfp
        have hpl := HI.out.pl
        have hsq := HR0.out.lts
        have HSQ := Aside0.mk hsq
        have HFP := Aside0.mk hfp'
        have HR8 := Aside0.mk (HR0.out.below hb8)
        have HB8 := Aside0.mk ((HB6.out.trans (HT0.out.below (fun k hk => by omega) HB6.out.size)).trans (hb8.mono (Nat.le_trans HB6.out.size HT0.out.size)))
        clear hfp hfp' hlp hb8 HPP HR0 hsq
        go_wp2_with fail
        go_loopw [8] (fun i wr => ∃ k : Nat, k ≤ s.P.length ∧ i = .int .i64 k ∧ RingAt wr (okR bp (bp + 1) w3.heap.size) (bp + 1 + 1) bp (bp + 1) (pLeft s k) ∧ Turn (fun k => k = bp ∨ k = bp + 1) w8 wr) (fun i _ => s.P.length - (intOf i).toNat)
        case atStart => exact ⟨0, Nat.zero_le _, rfl, HR8.out, Turn.refl _ _⟩
        case round =>
          obtain ⟨k, hk, rfl, hr, ht⟩ := hrel
          by_cases hlt : k < s.P.length
          · have hF : Kd.F k50 wr (fun k => wq.heap.size ≤ k) Ap (s.P.map person).length (s.P.map person) := Kd.F_step HFP.out (fun k hk hlt => ht.block k hlt (fun e => by have := HSQ.out; omega))
            obtain ⟨ad, A1, c1, hAp, hc0, hc1, hv⟩ := ppl_at hF hlt
            subst hAp
            have hinv := pLeft_inv HI0.out HI.out.sp k hk
            have hgm : s.P[k] ∈ (pLeft s k).P := by
              show s.P[k] ∈ s.P.drop k
              rw [List.drop_eq_getElem_cons hlt]
              exact List.mem_cons_self
            have hdp := drop_person HI.out.sp hlt
            have hdp' : drop1 (pLeft s k) (bz (mkS s.P[k].1)) = (0, pLeft s (k + 1)) := by rw [bz_mkS]; exact hdp
            obtain ⟨g, hg⟩ : ∃ g, g = s.P[k] := ⟨_, rfl⟩
            rw [← hg] at hc0 hc1 hv hgm hdp'
            rw [ints_length] at hc1 hv
            clear hg hdp
            have hgs := hinv.pn g hgm
            have hgl1 := nameOK_len hgs.1
            obtain ⟨w9, hw9⟩ : ∃ w9, w9 = wr.alloc (.cells #[.string (mkS g.1)] 9) := ⟨_, rfl⟩
            have hb9 : Below wr.heap.size wr w9 := by rw [hw9]; exact al_below _ (Below.refl _ _)
            have hs9 : Strs w9 (fun k => k = wr.heap.size) (.slice (some ⟨wr.heap.size, 0, none⟩) 1 1) [g.1] := strs_own (by rw [hw9]; exact al_new _ rfl)
            have hr9 := hr.below hb9
            have hpt1 := Points_calls hr9 hinv.good.toSmlG.toSmlP hinv.keys hs9 (by simp) (fun x hx => by rw [List.mem_singleton.1 hx]; omega)
            have hbad : ¬ (ad.add (k * 2)).block = bp ∧ ¬ (ad.add (k * 2)).block = bp + 1 := by
              have h9 := Kd.F_in hF rfl (by rw [List.length_map]; omega) (by decide)
              have h10 : (ad.add (k * 2)).block = ad.block := by unfold Addr.add; split <;> rfl
              have := HSQ.out
              rw [h10]
              omega
            have HPT1 := Aside0.mk hpt1
            have HW9 := Aside0.mk hw9
            have HR9 := Aside0.mk hr9
            have HC1 := Aside0.mk (pw_cell_below hb9 hc1)
            have HC0 := Aside0.mk (pw_cell_below hb9 hc0)
            have HV := Aside0.mk (show Bts w9 _ _ _ from Kd.V_below hv hb9)
            have HINV := Aside0.mk hinv
            have HGM := Aside0.mk hgm
            have HDP := Aside0.mk hdp'
            have HT9 := Aside0.mk (ht.trans (Turn.of_below hb9))
            clear hpt1 hw9 hb9 hs9 hr9 hr ht hv hgm hgs hc1 hinv hdp' hF hbad
            as_aux_lemma =>
            go_wp2_with fail
            rw [← HW9.out]
            (with_reducible refine HPT1.out.mono ?_)
            rintro e w10 ⟨v10, code10, rows10, rfl, hv10, hp10, hb10⟩
            obtain ⟨rfl, rfl⟩ := pts_one hp10 (pts_person HINV.out HGM.out)
            have hc1 := pw_cell_below hb10 HC1.out
            have hc0 := pw_cell_below hb10 HC0.out
            have hvv : Bts w10 _ _ _ := Kd.V_below HV.out hb10
            obtain ⟨w11, hw11⟩ : ∃ w11, w11 = w10.alloc (.cells #[.slice A1 g.2.length c1] 24) := ⟨_, rfl⟩
            have hb11 : Below w10.heap.size w10 w11 := by rw [hw11]; exact al_below _ (Below.refl _ _)
            have hrl := rws_lit (b := w10.heap.size) (show w11.heap[w10.heap.size]? = some (.cells #[.slice A1 g.2.length c1] 24 (0, 0)) by rw [hw11]; exact al_new _ rfl) (Kd.V_below hvv hb11)
            have hrw := rows12 (Kd.V_below hv10 hb11) hrl 33 (fun x hx => by rw [List.mem_singleton.1 hx]; have := (HINV.out.pn g HGM.out).2; omega)
            rw [decide_eq_true rfl] at hrw
            obtain ⟨A10, c10, rfl, hl10, hf10⟩ := hv10
            have HRW := Aside0.mk (show Calls Tryz.prog 12 #[.slice A10 1 c10, .slice (some ⟨w10.heap.size, 0, none⟩) 1 1] w11 _ from hrw)
            have HW11 := Aside0.mk hw11
            have HR11 := Aside0.mk ((HR9.out.below hb10).below hb11)
            have HT11 := Aside0.mk ((HT9.out.trans (Turn.of_below hb10)).trans (Turn.of_below hb11))
            have HC11 := Aside0.mk (pw_cell_below hb11 hc0)
            clear hrw hl10 hf10 hp10 hb10 hb11 hrl hvv HPT1 HR9 HT9 HV hw11
            go_wp2_with fail
            rw [← HW11.out]
            (with_reducible refine HRW.out.mono ?_)
            rintro e w12 ⟨rfl, n12, rfl⟩
            have hr12 := HR11.out.below (pw_below_drewN (Below.refl _ w11) n12)
            have hc := Drop_calls hr12 (mkS g.1) (by rw [mkS_size]; omega)
            rw [HDP.out] at hc
            have HC := Aside0.mk hc
            have HT12 := Aside0.mk (HT11.out.trans (Turn.of_below (pw_below_drewN (Below.refl _ w11) n12)))
            have hc12 := HC11.out
            clear hc hr12 HR11 HT11 HRW
            go_wp2_with fail
            (with_reducible refine HC.out.mono ?_)
            rintro e w13 ⟨rfl, hr13, ht13⟩
            have HR13 := Aside0.mk hr13
            have HT13 := Aside0.mk (HT12.out.trans ht13)
            clear hr13 ht13
            go_wp2_with fail
            go_roundw
            case measure => simp [intOf]; omega
            case rel => exact ⟨k + 1, by omega, by go_num, HR13.out, HT13.out⟩
          · obtain rfl : k = s.P.length := by omega
            have e0 : pLeft s s.P.length = ⟨[], []⟩ := by unfold pLeft; rw [List.drop_length]
            rw [e0] at hr
            have hpp := People_calls hr (by simp) (fun p hp => by simp at hp)
            have HPP := Aside0.mk hpp
            have HRR := Aside0.mk hr
            have HBZ := Aside0.mk (HB8.out.trans (ht.below (fun k hk => by omega) HB8.out.size))
            clear hpp hr ht
            as_aux_lemma =>
            go_wp2_with fail
            (with_reducible refine HPP.out.mono ?_)
            rintro e w20 ⟨v20, rfl, hv20, hb20⟩
            obtain ⟨A20, c20, rfl, _, _⟩ := hv20
            rw [List.map_nil, List.length_nil]
            have hr20 := HRR.out.below hb20
            have hgp := Groups_calls hr20 (by simp) (fun p hp => by simp at hp)
            have HGP := Aside0.mk hgp
            have HR20 := Aside0.mk hr20
            have HB20 := Aside0.mk (HBZ.out.trans (hb20.mono HBZ.out.size))
            clear hgp hr20 hb20 HPP HRR HBZ
            go_wp2_with fail
            (with_reducible refine HGP.out.mono ?_)
            rintro e w21 ⟨v21, rfl, hv21, hb21⟩
            obtain ⟨A21, c21, rfl, _, _⟩ := hv21
            rw [List.map_nil, List.length_nil]
            have hr21 := HR20.out.below hb21
            have hod := Order_calls hr21 inv0.good.toSmlG
            have HOD := Aside0.mk hod
            have HR21 := Aside0.mk hr21
            have HB21 := Aside0.mk (HB20.out.trans (hb21.mono HB20.out.size))
            clear hod hr21 hb21 HGP HR20 HB20
            go_wp2_with fail
            (with_reducible refine HOD.out.mono ?_)
            rintro e w22 ⟨v22, out22, rfl, hv22, hs22, hb22⟩
            have hol22 : out22 = [] := by
              have := ord_len hs22.1
              exact List.eq_nil_of_length_eq_zero (Nat.le_zero.1 this)
            subst hol22
            obtain ⟨A22, c22, rfl, _, _⟩ := hv22
            rw [List.map_nil, List.length_nil]
            have hr22 := HR21.out.below hb22
            have hwr := Write23 hr22
            have HWR := Aside0.mk hwr
            have HB22 := Aside0.mk (HB21.out.trans (hb22.mono HB21.out.size))
            clear hwr hr22 hb22 hs22 HOD HR21 HB21
            go_wp2_with fail
            (with_reducible refine HWR.out.mono ?_)
            rintro e w23 ⟨rfl, hb23⟩
            have HB23 := Aside0.mk (HB22.out.trans (hb23.mono HB22.out.size))
            clear hb23
            go_wp2_with fail
            go_ret
            exact ⟨by simp [mkS_toList, emptyB_is], HB23.out⟩
end Go.Proofs.YtflioeiklcnncaaGreatDoor.Ri
