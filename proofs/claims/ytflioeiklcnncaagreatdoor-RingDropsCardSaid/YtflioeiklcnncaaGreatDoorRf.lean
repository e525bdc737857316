/- What a ring keeps, plainly: names, points, members, a rank; each step keeps it; whose points, and which order, is one alone. -/
import Derived.Test.YtflioeiklcnncaaGreatDoorRe
import Derived.Deep.QuietTactic
import Derived.BigQuiet
import Derived.Laws.EntriesVeiled
import Derived.Deep.Slices
import Derived.Deep.Fields
import Derived.ChangeSame
import Derived.SliceStrings
set_option linter.unusedVariables false
set_option linter.unusedSimpArgs false
namespace Go.Proofs.YtflioeiklcnncaaGreatDoor.Ri
open Go.RowKit Go.Maps Go.Sort Go.Proofs.YtflioeiklcnncaaGreatDoorW.PrintWords Go.Proofs.YtflioeiklcnncaaGreatDoor.PRing

/-- Groups stand higher than their members that are groups. -/
def Ranked (s : St) : Prop := ∃ rk : B → Nat, ∀ p ∈ s.G, ∀ m ∈ p.2, ahas s.G m = true → rk m < rk p.1
structure RInv (s : St) : Prop where
  sp : Srt s.P
  sg : Srt s.G
  pl : s.P.length ≤ 32
  gl : s.G.length ≤ 32
  dj : ∀ x, ahas s.P x = true → ahas s.G x = false
  pn : ∀ p ∈ s.P, nameOK p.1 = true ∧ p.2.length = 32
  pd : ∀ p ∈ s.P, ∀ q ∈ s.P, p.2 = q.2 → p.1 = q.1
  gn : ∀ p ∈ s.G, nameOK p.1 = true ∧ p.2.length ≤ 32 ∧ p.2.Nodup
  th : ∀ p ∈ s.G, ∀ m ∈ p.2, there s m = true
  rk : Ranked s
theorem inv0 : RInv ⟨[], []⟩ :=
  ⟨List.Pairwise.nil, List.Pairwise.nil, by simp, by simp, fun x h => by simp [ahas] at h, fun p hp => by simp at hp, fun p hp => by simp at hp, fun p hp => by simp at hp, fun p hp => by simp at hp, ⟨fun _ => 0, fun p hp => by simp at hp⟩⟩
theorem nameOK_len {k : B} (h : nameOK k = true) : 1 ≤ k.length ∧ k.length ≤ 40 := by
  unfold nameOK at h
  simp only [Bool.and_eq_true, decide_eq_true_eq] at h
  exact ⟨h.1.2, h.2⟩
theorem ahas_mem {V : Type} {l : List (B × V)} {p : B × V} (h : p ∈ l) : ahas l p.1 = true := ahas_iff.2 ⟨p, h, rfl⟩
theorem RInv.thn {s : St} (h : RInv s) {x : B} (hx : there s x = true) : nameOK x = true := by
  unfold there at hx
  rw [Bool.or_eq_true] at hx
  rcases hx with hx | hx
  · obtain ⟨p, hp, rfl⟩ := ahas_iff.1 hx
    exact (h.pn p hp).1
  · obtain ⟨p, hp, rfl⟩ := ahas_iff.1 hx
    exact (h.gn p hp).1
theorem RInv.good {s : St} (h : RInv s) : Good s where
  p := by have := h.pl; omega
  g := by have := h.gl; omega
  ps := fun p hp => by
    have h1 := h.pn p hp
    have := nameOK_len h1.1
    omega
  gs := fun p hp => by
    have h1 := h.gn p hp
    have := nameOK_len h1.1
    omega
  pts := fun p hp => by have := (h.pn p hp).2; omega
  mems := fun p hp m hm => by
    have := nameOK_len (h.thn (h.th p hp m hm))
    omega
  nod := fun p hp => (h.gn p hp).2.2
  sp := h.sp
  sg := h.sg
  dj := h.dj
theorem srt_uniq {V : Type} {l : List (B × V)} (h : Srt l) {a : B} {p q : V} (hp : (a, p) ∈ l) (hq : (a, q) ∈ l) : p = q := by
  have h1 := alook_mem h hp
  have h2 := alook_mem h hq
  simp only at h1 h2
  rw [h1] at h2
  exact Option.some.inj h2
theorem RInv.keys {s : St} (h : RInv s) : Keys1 s := ⟨fun a p q hp hq => srt_uniq h.sp hp hq⟩

/-! ### a store of a new name -/
theorem aput_mem {V : Type} {l : List (B × V)} {k : B} (h : ahas l k = false) {v : V} {p : B × V} : p ∈ aput l k v ↔ p = (k, v) ∨ p ∈ l := by
  unfold aput
  rw [adel_none h, ains_mem]
theorem ains_srt {V : Type} {x : B × V} : ∀ {l : List (B × V)}, Srt l → (∀ p ∈ l, p.1 ≠ x.1) → Srt (ains x l)
  | [], _, _ => List.pairwise_singleton _ _
  | y :: r, h, hn => by
    unfold Srt at h ⊢
    rw [List.pairwise_cons] at h
    unfold ains
    split
    · rename_i hlt
      refine List.Pairwise.cons (fun z hz => ?_) (List.pairwise_cons.2 h)
      rcases List.mem_cons.1 hz with rfl | hz
      · exact hlt
      · exact bb_trans hlt (h.1 z hz)
    · rename_i hlt
      refine List.Pairwise.cons (fun z hz => ?_) (ains_srt h.2 (fun z hz => hn z (by simp [hz])))
      rcases ains_mem.1 hz with rfl | hz
      · rcases bb_total y.1 z.1 with h1 | h1 | h1
        · exact h1
        · exact absurd h1 (hn y (by simp))
        · exact absurd h1 hlt
      · exact h.1 z hz
theorem aput_srt {V : Type} {l : List (B × V)} (h : Srt l) {k : B} (hk : ahas l k = false) (v : V) : Srt (aput l k v) := by
  unfold aput
  rw [adel_none hk]
  exact ains_srt h (fun p hp => ahas_false.1 hk p hp)
theorem ahas_put' {V : Type} {l : List (B × V)} {k : B} (v : V) {x : B} (h : ahas l x = true) : ahas (aput l k v) x = true := (ahas_put l k v x).2 (.inr h)
theorem ahas_put_ne {V : Type} {l : List (B × V)} {k : B} {v : V} {x : B} (hn : x ≠ k) : ahas (aput l k v) x = ahas l x := by
  rw [Bool.eq_iff_iff, ahas_put]
  constructor
  · rintro (h | h)
    · exact absurd h hn
    · exact h
  · exact .inr
theorem there_no {s : St} {x : B} (h : ¬ there s x = true) : ahas s.P x = false ∧ ahas s.G x = false := by
  have h' : there s x = false := by simpa using h
  unfold there at h'
  rwa [Bool.or_eq_false_iff] at h'
theorem who_nil {s : St} (hn : ∀ p ∈ s.P, nameOK p.1 = true) {pt : B} (h : who s pt = []) : ∀ p ∈ s.P, p.2 ≠ pt := by
  intro p hp e
  unfold who at h
  cases hf : s.P.find? (fun q => decide (q.2 = pt)) with
  | none =>
    rw [List.find?_eq_none] at hf
    exact hf p hp (by simp [e])
  | some q =>
    rw [hf] at h
    have := nameOK_len (hn q (List.mem_of_find?_eq_some hf))
    simp only [Option.map_some, Option.getD_some] at h
    rw [h] at this
    simp at this
theorem person1_inv {s : St} (h : RInv s) (nm pt : B) : RInv (person1 s nm pt).2 := by
  unfold person1
  split
  · exact h
  split
  · exact h
  split
  · exact h
  rename_i h1 h2 h3
  have hok : nameOK nm = true := by
    cases e : nameOK nm
    · exact absurd (.inl e) h1
    · rfl
  have hpl : pt.length = 32 := Classical.byContradiction fun e => h1 (.inr e)
  have hth : ¬ there s nm = true := fun e => h2 (.inl e)
  have hwho : who s pt = [] := Classical.byContradiction fun e => h2 (.inr e)
  obtain ⟨hP, hG⟩ := there_no hth
  have hnp := who_nil (fun p hp => (h.pn p hp).1) hwho
  refine ⟨aput_srt h.sp hP pt, h.sg, ?_, h.gl, fun x hx => ?_, fun p hp => ?_, fun p hp q hq e => ?_, h.gn, fun p hp m hm => ?_, h.rk⟩
  · show (aput s.P nm pt).length ≤ 32
    rw [aput_length hP]; omega
  · rcases (ahas_put _ _ _ _).1 hx with rfl | hx
    · exact hG
    · exact h.dj x hx
  · rcases (aput_mem hP).1 hp with rfl | hp
    · exact ⟨hok, hpl⟩
    · exact h.pn p hp
  · rcases (aput_mem hP).1 hp with rfl | hp <;> rcases (aput_mem hP).1 hq with rfl | hq
    · rfl
    · exact absurd e.symm (hnp q hq)
    · exact absurd e (hnp p hp)
    · exact h.pd p hp q hq e
  · have := h.th p hp m hm
    unfold there at this ⊢
    rw [Bool.or_eq_true] at this ⊢
    rcases this with e | e
    · exact .inl (ahas_put' pt e)
    · exact .inr e
theorem dup_false {l : List B} (h : ¬ dup l = true) : l.Nodup := by
  unfold dup at h
  simpa using h
theorem group1_inv {s : St} (h : RInv s) (nm : B) (ms : List B) : RInv (group1 s nm ms).2 := by
  unfold group1
  split
  · exact h
  split
  · exact h
  split
  · exact h
  split
  · exact h
  rename_i h1 h2 h3 h4
  have hok : nameOK nm = true := by
    cases e : nameOK nm
    · exact absurd (.inl e) h1
    · rfl
  have hml : ms.length ≤ 32 := Nat.le_of_not_lt fun e => h1 (.inr (.inl e))
  have hnd : ms.Nodup := dup_false fun e => h1 (.inr (.inr e))
  obtain ⟨hP, hG⟩ := there_no h2
  have hms : ∀ m ∈ ms, there s m = true := fun m hm => by
    have h5 : (ms.any fun m => !there s m) = false := by simpa using h3
    have := List.any_eq_false.1 h5 m hm
    simpa using this
  have hput : ∀ x, there s x = true → there ⟨s.P, aput s.G nm ms⟩ x = true := fun x hx => by
    unfold there at hx ⊢
    rw [Bool.or_eq_true] at hx ⊢
    rcases hx with e | e
    · exact .inl e
    · exact .inr (ahas_put' ms e)
  refine ⟨h.sp, aput_srt h.sg hG ms, h.pl, ?_, fun x hx => ?_, h.pn, h.pd, fun p hp => ?_, fun p hp m hm => ?_, ?_⟩
  · show (aput s.G nm ms).length ≤ 32
    rw [aput_length hG]; omega
  · cases e : ahas (aput s.G nm ms) x
    · rfl
    · rcases (ahas_put _ _ _ _).1 e with rfl | e
      · have hx' : ahas s.P x = true := hx
        rw [hP] at hx'; cases hx'
      · rw [h.dj x hx] at e; cases e
  · rcases (aput_mem hG).1 hp with rfl | hp
    · exact ⟨hok, hml, hnd⟩
    · exact h.gn p hp
  · rcases (aput_mem hG).1 hp with rfl | hp
    · exact hput m (hms m hm)
    · exact hput m (h.th p hp m hm)
  · obtain ⟨rk, hr⟩ := h.rk
    refine ⟨fun x => if x = nm then (ms.map rk).foldr max 0 + 1 else rk x, fun p hp m hm hg => ?_⟩
    have hmn : ∀ x, there s x = true → x ≠ nm := fun x hx e => h2 (by rw [← e]; exact hx)
    have hmax : ∀ (l : List B) (x : B), x ∈ l → rk x ≤ (l.map rk).foldr max 0 := by
      intro l
      induction l with
      | nil => intro x hx; simp at hx
      | cons a r ih =>
        intro x hx
        simp only [List.map_cons, List.foldr_cons]
        rcases List.mem_cons.1 hx with rfl | hx
        · exact Nat.le_max_left _ _
        · exact Nat.le_trans (ih x hx) (Nat.le_max_right _ _)
    have hG' : ∀ x, x ≠ nm → ahas (aput s.G nm ms) x = true → ahas s.G x = true := fun x hx e => by rwa [ahas_put_ne hx] at e
    rcases (aput_mem hG).1 hp with rfl | hp
    · have hne := hmn m (hms m hm)
      have := hmax ms m hm
      simp only [if_neg hne, if_pos]
      omega
    · have hne := hmn m (h.th p hp m hm)
      have hne2 : p.1 ≠ nm := ahas_false.1 hG p hp
      simp only [if_neg hne, if_neg hne2]
      exact hr p hp m hm (hG' m hne hg)
theorem adel_mem {V : Type} {l : List (B × V)} {k : B} {p : B × V} : p ∈ adel l k ↔ p ∈ l ∧ p.1 ≠ k := by
  unfold adel
  rw [List.mem_filter]
  simp
theorem adel_srt {V : Type} {l : List (B × V)} (h : Srt l) (k : B) : Srt (adel l k) := List.Pairwise.filter _ h
theorem adel_has {V : Type} {l : List (B × V)} {k x : B} : ahas (adel l k) x = true ↔ ahas l x = true ∧ x ≠ k := by
  rw [ahas_iff, ahas_iff]
  constructor
  · rintro ⟨p, hp, rfl⟩
    rw [adel_mem] at hp
    exact ⟨⟨p, hp.1, rfl⟩, hp.2⟩
  · rintro ⟨⟨p, hp, rfl⟩, hk⟩
    exact ⟨p, adel_mem.2 ⟨hp, hk⟩, rfl⟩
theorem adel_len {V : Type} (l : List (B × V)) (k : B) : (adel l k).length ≤ l.length := List.length_filter_le _ _
theorem drop_inv {s : St} (h : RInv s) (nm : B) (hno : ∀ p ∈ s.G, nm ∉ p.2) : RInv ⟨adel s.P nm, adel s.G nm⟩ := by
  refine ⟨adel_srt h.sp nm, adel_srt h.sg nm, Nat.le_trans (adel_len _ _) h.pl, Nat.le_trans (adel_len _ _) h.gl, fun x hx => ?_, fun p hp => h.pn p (adel_mem.1 hp).1, fun p hp q hq => h.pd p (adel_mem.1 hp).1 q (adel_mem.1 hq).1, fun p hp => h.gn p (adel_mem.1 hp).1, fun p hp m hm => ?_, ?_⟩
  · cases e : ahas (adel s.G nm) x
    · rfl
    · have h1 := h.dj x (adel_has.1 hx).1
      rw [(adel_has.1 e).1] at h1; cases h1
  · have h1 := h.th p (adel_mem.1 hp).1 m hm
    have hne : m ≠ nm := fun e => hno p (adel_mem.1 hp).1 (e ▸ hm)
    unfold there at h1 ⊢
    rw [Bool.or_eq_true] at h1 ⊢
    rcases h1 with e | e
    · exact .inl (adel_has.2 ⟨e, hne⟩)
    · exact .inr (adel_has.2 ⟨e, hne⟩)
  · obtain ⟨rk, hr⟩ := h.rk
    exact ⟨rk, fun p hp m hm hg => hr p (adel_mem.1 hp).1 m hm (adel_has.1 hg).1⟩
theorem drop1_inv {s : St} (h : RInv s) (nm : B) : RInv (drop1 s nm).2 := by
  unfold drop1
  split
  · exact h
  split
  · exact h
  rename_i h1 h2
  have h3 : (s.G.any fun p => decide (nm ∈ p.2)) = false := by simpa using h2
  exact drop_inv h nm (fun p hp => by simpa using List.any_eq_false.1 h3 p hp)

/-! ### whose points: one answer alone -/
theorem rise_eq {a b : List B} (ha : a.Pairwise (fun x y => bytesBefore x y = true)) (hb : b.Pairwise (fun x y => bytesBefore x y = true)) (h : ∀ x, x ∈ a ↔ x ∈ b) : a = b := by
  have na : a.Nodup := ha.imp fun {x y} h => bb_ne h
  have nb : b.Nodup := hb.imp fun {x y} h => bb_ne h
  refine List.Perm.eq_of_pairwise (le := fun x y => bytesBefore x y = true) (fun x y _ _ h1 h2 => ?_) ha hb ((List.perm_ext_iff_of_nodup na nb).2 h)
  rw [bb_asymm h1] at h2; cases h2
theorem pts_one {s : St} {names : List B} {c1 c2 : Int} {r1 r2 : List B} (h1 : PtsSpec s names c1 r1) (h2 : PtsSpec s names c2 r2) : c1 = c2 ∧ r1 = r2 := by
  rcases h1 with ⟨rfl, rfl, x, hx, hn⟩ | ⟨ha, fl, hs, hm, h1⟩
  · rcases h2 with ⟨rfl, rfl, _⟩ | ⟨hb, _⟩
    · exact ⟨rfl, rfl⟩
    · rw [hb x hx] at hn; cases hn
  · rcases h2 with ⟨rfl, rfl, x, hx, hn⟩ | ⟨hb, fl', hs', hm', h2⟩
    · rw [ha x hx] at hn; cases hn
    · have e : fl = fl' := rise_eq hs hs' (fun p => (hm p).trans (hm' p).symm)
      subst e
      rcases h1 with ⟨a1, rfl, rfl⟩ | ⟨a1, rfl, rfl⟩ <;> rcases h2 with ⟨b1, rfl, rfl⟩ | ⟨b1, rfl, rfl⟩
      · exact ⟨rfl, rfl⟩
      · omega
      · omega
      · exact ⟨rfl, rfl⟩
theorem pts_rows {s : St} (h : RInv s) {names : List B} {c : Int} {r : List B} (h1 : PtsSpec s names c r) : r.length ≤ 8 ∧ ∀ x ∈ r, x.length = 32 := by
  rcases h1 with ⟨rfl, rfl, _⟩ | ⟨ha, fl, hs, hm, ⟨a1, rfl, rfl⟩ | ⟨a1, rfl, rfl⟩⟩
  · exact ⟨by simp, fun x hx => by simp at hx⟩
  · exact ⟨by simp, fun x hx => by simp at hx⟩
  · refine ⟨a1, fun x hx => ?_⟩
    obtain ⟨y, _, hy⟩ := (hm x).1 hx
    exact (h.pn _ hy).2
end Go.Proofs.YtflioeiklcnncaaGreatDoor.Ri

set_option linter.unusedVariables false
set_option linter.unusedSimpArgs false
namespace Go.Proofs.YtflioeiklcnncaaGreatDoor.Ri
open Go.RowKit Go.Maps Go.Sort Go.Proofs.YtflioeiklcnncaaGreatDoorW.PrintWords Go.Proofs.YtflioeiklcnncaaGreatDoor.PRing

theorem eq21q {w : World} {ok ok' : Nat → Prop} {v v' : Value} {a : B} {n : Nat} (h : Bts (w.drewN n) ok v a) (h' : Bts (w.drewN n) ok' v' a) :
    Calls Tryz.prog 21 #[v, v'] (w.drewN n) fun e w' => e = .returned (.bool true) ∧ ∃ m, w' = w.drewN m :=
  (eq21 h h').mono fun e w' ⟨he, m, hm⟩ => ⟨by rw [he]; simp, n + m, by rw [hm]; simp⟩
theorem texts13q {w : World} {ok ok' : Nat → Prop} {v v' : Value} {a : List B} {n : Nat} (h : Strs (w.drewN n) ok v a) (h' : Strs (w.drewN n) ok' v' a) :
    Calls Tryz.prog 13 #[v, v'] (w.drewN n) fun e w' => e = .returned (.bool true) ∧ ∃ m, w' = w.drewN m :=
  (texts13 h h').mono fun e w' ⟨he, m, hm⟩ => ⟨by rw [he]; simp, n + m, by rw [hm]; simp⟩
theorem V_drewN {α : Type} {d : Kd α} {e base : Nat} {w : World} {ok : Nat → Prop} {v : Value} {xs : List α} (h : Kd.V d e w base ok v xs) (n : Nat) : Kd.V d e (w.drewN n) base ok v xs := Kd.V_below h (pw_below_drewN (Below.refl _ _) n)
set_option maxRecDepth 100000 in
set_option maxHeartbeats 2000000 in
theorem Same29 {W : World} {ok ok1 ok2 : Nat → Prop} {q : Nat} {s : St} (h : RefAt W ok q s) (hS : Good s) {v1 v2 : Value} (h1 : Ppl W ok1 v1 s.P) (h2 : Grps W ok2 v2 s.G) :
    Calls Tryz.prog 29 #[v1, v2, .pointer (some ⟨q, 0, none⟩)] W fun e w' => e = .returned (.bool true) ∧ ∃ n, w' = W.drewN n := by
  obtain ⟨vp, vg, hb, ⟨A, c, rfl, hl, hf⟩, ⟨A2, c2, rfl, hl2, hf2⟩⟩ := h.blk
  obtain ⟨B1, d1, rfl, hm, hg⟩ := h1
  obtain ⟨B2, d2, rfl, hm2, hg2⟩ := h2
  obtain ⟨c0, c1, -, -⟩ := two_cells hb
  rw [List.length_map] at c0 c1 ⊢
  rw [List.length_map]
  have hP : s.P.length ≤ 1000 := hS.p
  have hG : s.G.length ≤ 1000 := hS.g
  have HF := Aside0.mk hf
  have HF2 := Aside0.mk hf2
  have HG := Aside0.mk hg
  have HG2 := Aside0.mk hg2
  have C0 := Aside0.mk c0
  have C1 := Aside0.mk c1
  clear hf hf2 hg hg2 hb h hl hl2 hm hm2
  go_enter Tryz.func29, Tryz.ntmps29
  go_wp2_with fail
  go_loopw [7] (fun i wr => ∃ k : Nat, k ≤ s.P.length ∧ i = .int .i64 k ∧ ∃ n, wr = W.drewN n) (fun i _ => s.P.length - (intOf i).toNat)
  case atStart => exact ⟨0, Nat.zero_le _, rfl, 0, rfl⟩
  case round =>
    obtain ⟨k, hk, rfl, n, hwr⟩ := hrel
    have hbw : Below W.heap.size W wr := by rw [hwr]; exact pw_below_drewN (Below.refl _ _) n
    have HWR := Aside0.mk hwr
    have c0w := keep_heap (hbw.block q (World.block_lt_of_cell? W _ C0.out)) C0.out
    have c1w := keep_heap (hbw.block q (World.block_lt_of_cell? W _ C1.out)) C1.out
    clear hwr
    by_cases hlt : k < s.P.length
    · obtain ⟨ad, A1, c1', hA, hc0, hc1, hv⟩ := ppl_at (Kd.F_below HF.out hbw) hlt
      obtain ⟨ad', A1', c1'', hA', hc0', hc1', hv'⟩ := ppl_at (Kd.F_below HG.out hbw) hlt
      subst hA
      subst hA'
      have HV := Aside0.mk hv
      have HV' := Aside0.mk hv'
      have hcmp : ((mkS s.P[k].1).toList != (mkS s.P[k].1).toList) = false := by simp
      clear hv hv' hbw
      as_aux_lemma =>
      go_wp2_with fail
      go_quiet ((go_at_call 21; exact eq21q (V_drewN HV'.out _) (V_drewN HV.out _)))
      have HQ := Aside0.mk (show ∃ n2, wr.drewN nq = W.drewN n2 from ⟨n + nq, by rw [HWR.out]; simp⟩)
      go_wp2_with fail
      go_roundw
      case measure => simp [intOf]; omega
      case rel =>
        exact ⟨k + 1, by omega, by go_num, HQ.out⟩
    · obtain rfl : k = s.P.length := by omega
      clear hbw c0w c1w
      have HWR0 := Aside0.mk (show ∃ n, wr = W.drewN n from ⟨n, HWR.out⟩)
      clear HWR hlt hk
      as_aux_lemma =>
      go_wp2_with fail
      obtain ⟨wo, hwo⟩ : ∃ wo : World, wo = wr := ⟨_, rfl⟩
      subst hwo
      go_loopw [8] (fun i wr => ∃ k : Nat, k ≤ s.G.length ∧ i = .int .i64 k ∧ ∃ n, wr = W.drewN n) (fun i _ => s.G.length - (intOf i).toNat)
      case atStart => exact ⟨0, Nat.zero_le _, rfl, HWR0.out⟩
      case round =>
        obtain ⟨k, hk, rfl, n, hwr⟩ := hrel
        have hbw : Below W.heap.size W wr := by rw [hwr]; exact pw_below_drewN (Below.refl _ _) n
        have HWR := Aside0.mk hwr
        have c0w := keep_heap (hbw.block q (World.block_lt_of_cell? W _ C0.out)) C0.out
        have c1w := keep_heap (hbw.block q (World.block_lt_of_cell? W _ C1.out)) C1.out
        clear hwr
        by_cases hlt : k < s.G.length
        · obtain ⟨ad, A1, c1', hA, hc0, hc1, hv⟩ := grp_at (Kd.F_below HF2.out hbw) hlt
          obtain ⟨ad', A1', c1'', hA', hc0', hc1', hv'⟩ := grp_at (Kd.F_below HG2.out hbw) hlt
          subst hA
          subst hA'
          have HV := Aside0.mk hv
          have HV' := Aside0.mk hv'
          have hcmp : ((mkS s.G[k].1).toList != (mkS s.G[k].1).toList) = false := by simp
          clear hv hv' hbw
          as_aux_lemma =>
          go_wp2_with fail
          go_quiet ((go_at_call 13; exact texts13q (V_drewN HV'.out _) (V_drewN HV.out _)))
          have HQ := Aside0.mk (show ∃ n2, wr.drewN nq = W.drewN n2 from ⟨n + nq, by rw [HWR.out]; simp⟩)
          go_wp2_with fail
          go_roundw
          case measure => simp [intOf]; omega
          case rel =>
            exact ⟨k + 1, by omega, by go_num, HQ.out⟩
        · obtain rfl : k = s.G.length := by omega
          as_aux_lemma =>
          clear hbw c0w c1w
          go_wp2_with fail
          go_ret
          exact ⟨rfl, n, HWR.out⟩
end Go.Proofs.YtflioeiklcnncaaGreatDoor.Ri

set_option linter.unusedVariables false
set_option linter.unusedSimpArgs false
namespace Go.Proofs.YtflioeiklcnncaaGreatDoor.Ri
open Go.RowKit Go.Maps Go.Sort Go.Proofs.YtflioeiklcnncaaGreatDoorW.PrintWords Go.Proofs.YtflioeiklcnncaaGreatDoor.PRing

def mok (s : St) (out : List B) (m : B) : Bool := !ahas s.G m || decide (m ∈ out)
def rdy (s : St) (out : List B) (p : B × List B) : Bool := !decide (p.1 ∈ out) && p.2.all (mok s out)
theorem mem_srt {s : St} (h : Srt s.G) {p : B × List B} (hp : p ∈ s.G) : mem s p.1 = p.2 := by
  unfold mem
  rw [alook_mem h hp]
  rfl
theorem rdy_iff {s : St} (h : Srt s.G) {out : List B} {p : B × List B} (hp : p ∈ s.G) : rdy s out p = true ↔ ready s out p.1 := by
  unfold rdy ready
  rw [cnt_zero, mem_srt h hp, Bool.and_eq_true, List.all_eq_true]
  constructor
  · rintro ⟨h1, h2⟩
    refine ⟨ahas_mem hp, by simpa using h1, fun y hy hg => ?_⟩
    have := h2 y hy
    unfold mok at this
    simpa [hg] using this
  · rintro ⟨_, h1, h2⟩
    refine ⟨by simpa using h1, fun y hy => ?_⟩
    unfold mok
    cases hg : ahas s.G y
    · rfl
    · simpa using h2 y hy hg
theorem ord_full {s : St} {out : List B} (h : OrdPre s out) (hl : ¬ out.length < s.G.length) (y : B) : ¬ ready s out y := by
  rintro ⟨h1, h2, _⟩
  have := sub_len (l := y :: out) (m := s.G.map (·.1)) (List.nodup_cons.2 ⟨h2, ord_nodup h⟩) (fun x hx => by
    rcases List.mem_cons.1 hx with rfl | hx
    · obtain ⟨q, hq, e⟩ := ahas_iff.1 h1
      exact List.mem_map.2 ⟨q, hq, e⟩
    · obtain ⟨q, hq, e⟩ := ahas_iff.1 (ord_in h hx).1
      exact List.mem_map.2 ⟨q, hq, e⟩)
  simp at this
  omega
theorem ord_more {s : St} (hs : Srt s.G) (hR : Ranked s) {out : List B} (hl : out.length < s.G.length) : ∃ p ∈ s.G, rdy s out p = true := by
  obtain ⟨rk, hr⟩ := hR
  have h0 : ∃ p ∈ s.G, p.1 ∉ out := Classical.byContradiction fun hn => by
    have hall : ∀ p ∈ s.G, p.1 ∈ out := fun p hp => Classical.byContradiction fun e => hn ⟨p, hp, e⟩
    have := sub_len (l := s.G.map (·.1)) (m := out) (by
      rw [List.Nodup, List.pairwise_map]
      exact hs.imp fun {a b} h => bb_ne h) (fun x hx => by
      obtain ⟨p, hp, rfl⟩ := List.mem_map.1 hx
      exact hall p hp)
    simp at this
    omega
  obtain ⟨p, hp, hpo⟩ := h0
  have key : ∀ n, ∀ p ∈ s.G, rk p.1 ≤ n → p.1 ∉ out → ∃ p ∈ s.G, rdy s out p = true := by
    intro n
    induction n with
    | zero =>
      intro p hp hn hpo
      refine ⟨p, hp, ?_⟩
      unfold rdy
      rw [Bool.and_eq_true, List.all_eq_true]
      refine ⟨by simpa using hpo, fun m hm => ?_⟩
      unfold mok
      cases hg : ahas s.G m
      · rfl
      · have := hr p hp m hm hg
        omega
    | succ n ih =>
      intro p hp hn hpo
      by_cases he : ∃ m ∈ p.2, ahas s.G m = true ∧ m ∉ out
      · obtain ⟨m, hm, hg, hmo⟩ := he
        have hlt := hr p hp m hm hg
        obtain ⟨q, hq, rfl⟩ := ahas_iff.1 hg
        exact ih q hq (by omega) hmo
      · refine ⟨p, hp, ?_⟩
        unfold rdy
        rw [Bool.and_eq_true, List.all_eq_true]
        refine ⟨by simpa using hpo, fun m hm => ?_⟩
        unfold mok
        cases hg : ahas s.G m
        · rfl
        · have : m ∈ out := Classical.byContradiction fun e => he ⟨m, hm, hg, e⟩
          simpa using this
  exact key _ p hp (Nat.le_refl _) hpo
theorem ord_pick {s : St} (hs : Srt s.G) {out : List B} (h : OrdPre s out) {k : Nat} (hk : k < s.G.length) (hno : ∀ j, (hj : j < s.G.length) → j < k → rdy s out s.G[j] = false) (hy : rdy s out s.G[k] = true) : OrdPre s (out ++ [s.G[k].1]) := by
  refine ord_snoc h ((rdy_iff hs (List.getElem_mem hk)).1 hy) (fun y hr => ?_)
  obtain ⟨p, hp, rfl⟩ := ahas_iff.1 hr.1
  obtain ⟨j, hj, rfl⟩ := List.mem_iff_getElem.1 hp
  have h2 := (rdy_iff hs hp).2 hr
  rcases Nat.lt_trichotomy j k with h3 | h3 | h3
  · rw [hno j hj h3] at h2; cases h2
  · subst h3; exact Le.refl _
  · have hs' := hs
    unfold Srt at hs'
    rw [List.pairwise_iff_getElem] at hs'
    exact Le.of_lt (hs' k j hk hj h3)
def slen : Value → Nat
  | .slice _ n _ => n
  | _ => 0
theorem all_snoc {l : List B} (f : B → Bool) {k : Nat} (h : k < l.length) : (l.take (k + 1)).all f = ((l.take k).all f && f l[k]) := by
  rw [take_snoc' h, List.all_append, List.all_cons, List.all_nil, Bool.and_true]
def GNo (s : St) (out : List B) (k : Nat) : Prop := ∀ j, (hj : j < s.G.length) → j < k → rdy s out s.G[j] = false
set_option maxRecDepth 100000 in
set_option maxHeartbeats 4000000 in
theorem Order15 {W : World} {ok : Nat → Prop} {q : Nat} {s : St} (h : RefAt W ok q s) (hS : Good s) (hR : Ranked s) :
    Calls Tryz.prog 15 #[.pointer (some ⟨q, 0, none⟩)] W (OrderPost W s) := by
  obtain ⟨vp, vg, hb, ⟨A, c, rfl, hl, hf⟩, ⟨A2, c2, rfl, hl2, hf2⟩⟩ := h.blk
  obtain ⟨c0, c1, f0, f1⟩ := two_cells hb
  rw [List.length_map] at c1 hl2
  have HR := Aside0.mk h
  have HF2 := Aside0.mk (Kd.F_bound hf2)
  have HS := Aside0.mk hS
  have HRK := Aside0.mk hR
  have hg1 : s.G.length ≤ 1000 := hS.g
  have C1 := Aside0.mk c1
  clear h hf hf2 hS hb hR c0 hl f0 f1 c1
  go_enter Tryz.func15, Tryz.ntmps15
  go_wp2_with fail
  go_loopw [3] (fun u wr => ∃ out, Own wr u out ∧ (∀ k, u.ownBlock = some k → W.heap.size ≤ k) ∧ Below W.heap.size W wr ∧ OrdPre s out) (fun u _ => s.G.length - slen u)
  case atStart => exact ⟨[], Own.nil _, fun k hk => by simp [Value.ownBlock] at hk, Below.refl _ _, ord_nil s⟩
  case round =>
    obtain ⟨out, hown, hd, hbr, hord⟩ := hrel
    obtain ⟨Aa, ca, rfl⟩ := hown.slice
    have hol : out.length ≤ 1000 := Nat.le_trans (ord_len hord) hg1
    have c1 := keep_heap (hbr.block q (World.block_lt_of_cell? W _ C1.out)) C1.out
    have HOWN := Aside0.mk hown
    have HD := Aside0.mk hd
    have HBR := Aside0.mk hbr
    have HORD := Aside0.mk hord
    clear hown hd hbr hord
    by_cases hlt : out.length < s.G.length
    · have HLT := Aside0.mk hlt
      go_wp2_with fail
      obtain ⟨wo, hwo⟩ : ∃ wo : World, wo = wr := ⟨_, rfl⟩
      subst hwo
      go_loopw [4, 3] (fun i u wi => ∃ k n : Nat, k ≤ s.G.length ∧ i = .int .i64 k ∧ u = .slice Aa out.length ca ∧ GNo s out k ∧ wi = wo.drewN n) (fun i _ _ => s.G.length - (intOf i).toNat)
      case atStart => exact ⟨0, 0, Nat.zero_le _, rfl, rfl, fun j hj h0 => by omega, rfl⟩
      case round =>
        obtain ⟨k, n, hk, rfl, rfl, hno, hwr⟩ := hrel
        by_cases hlk : k < s.G.length
        · obtain ⟨ad, A1, c1', rfl, hc0, hc1, hv⟩ := grp_at (Kd.F_below HF2.out HBR.out) hlk
          have hin := in19 (W := wo.drewN n) (Kd.V_below HOWN.out.V (pw_below_drewN (Below.refl _ _) n)) (mkS s.G[k].1)
          rw [bz_mkS] at hin
          have hrdy : rdy s out s.G[k] = (!decide (s.G[k].1 ∈ out) && s.G[k].2.all (mok s out)) := rfl
          have hml : s.G[k].2.length ≤ 1000 := (HS.out.gs _ (List.getElem_mem hlk)).2
          have hpk := fun hy => ord_pick HS.out.sg HORD.out hlk hno hy
          have HPK := Aside0.mk hpk
          have HSN := Aside0.mk (show ∀ b, rdy s out s.G[k] = b → b = false → GNo s out (k + 1) from fun b hb1 hb2 j hj hjk => by
            by_cases hjk' : j < k
            · exact hno j hj hjk'
            · obtain rfl : j = k := by omega
              rw [hb1, hb2])
          generalize hnm : s.G[k].1 = nm at hc0 hin hrdy HPK
          generalize hms : s.G[k].2 = ms at hc1 hv hrdy hml
          generalize hrk : rdy s out s.G[k] = rk0 at hrdy HPK HSN
          generalize hd0 : decide (nm ∈ out) = d0 at hin hrdy
          have HRDY := Aside0.mk hrdy
          have HIN := Aside0.mk hin
          have HNO := Aside0.mk hno
          have HSN2 := Aside0.mk (HSN.out rk0 rfl)
          obtain ⟨Av, cv, ev, hlv, hfv⟩ := hv
          rw [List.length_map] at ev hfv hlv
          injection ev with ev1 ev2 ev3
          subst ev1; subst ev3
          have HV := Aside0.mk hfv
          clear hnm hms hd0 hrk hrdy hin hno hpk hfv ev2 HSN
          subst hwr
          go_wp2_with fail
          (with_reducible refine HIN.out.mono ?_)
          rintro e w2 ⟨rfl, ⟨n2, rfl⟩⟩
          go_wp2_with fail
          go_loopw [6, 5] (fun i6 u5 wi => ∃ (k2 n3 : Nat) (b : Bool), k2 ≤ ms.length ∧ i6 = .int .i64 k2 ∧ u5 = .bool b ∧ ((!d0) && (ms.take k2).all (mok s out)) = b ∧ wi = wo.drewN n3) (fun i6 _ _ => ms.length - (intOf i6).toNat)
          case atStart => exact ⟨0, n + n2, !d0, Nat.zero_le _, rfl, rfl, by simp, by simp⟩
          case round =>
            obtain ⟨k2, n3, b, hk2, rfl, rfl, hb2, hwr⟩ := hrel
            have HB2 := Aside0.mk hb2
            clear hb2
            subst hwr
            by_cases hl2 : k2 < ms.length
            · obtain ⟨ad2, hA2, hcell⟩ := str_at (Kd.F_below HV.out (pw_below_drewN (Below.refl _ _) n3)) hl2
              subst hA2
              have hall := all_snoc (mok s out) hl2
              have hmk : mok s out ms[k2] = (!ahas s.G ms[k2] || decide (ms[k2] ∈ out)) := rfl
              have hR2 : RefAt (wo.drewN n3) ok q s := HR.out.below (HBR.out.trans (Below.mono (pw_below_drewN (Below.refl _ wo) n3) HBR.out.size))
              have hgp := group35 hR2 HS.out.g ms[k2]
              have hin2 := in19 (W := wo.drewN n3) (Kd.V_below HOWN.out.V (pw_below_drewN (Below.refl _ _) n3)) (mkS ms[k2])
              rw [bz_mkS] at hin2
              have hig := idx_ge s.G ms[k2]
              generalize ms[k2] = m at hcell hall hmk hgp hin2 hig
              generalize decide (m ∈ out) = d2 at hmk hin2
              have HGP := Aside0.mk hgp
              have HIN2 := Aside0.mk hin2
              have HAL := Aside0.mk hall
              have HMK := Aside0.mk hmk
              clear hall hmk hR2 hgp hin2
              cases b with
              | false =>
                clear hig
                as_aux_lemma =>
                go_wp2_with fail
                refine ⟨⟨k2 + 1, n3, false, by omega, by go_num, rfl, ?_, rfl⟩, by simp [intOf]; omega⟩
                rw [HAL.out, ← Bool.and_assoc, HB2.out]; rfl
              | true =>
                by_cases hg : ahas s.G m = true
                · have hx : ¬ (idx s.G m < 0) := by
                    rw [hg] at hig
                    have := of_decide_eq_true hig
                    omega
                  generalize hxx : idx s.G m = xx at hx HGP
                  have hxd : decide (xx < 0) = false := decide_eq_false hx
                  have HG := Aside0.mk hg
                  clear hig hx hxx hg
                  as_aux_lemma =>
                  go_wp2_with fail
                  (with_reducible refine HGP.out.mono ?_)
                  rintro e w4 ⟨rfl, hw⟩
                  obtain rfl := hw.symm
                  go_wp2_with fail
                  (with_reducible refine HIN2.out.mono ?_)
                  rintro e w4 ⟨rfl, ⟨n4, rfl⟩⟩
                  go_wp2_with fail
                  refine ⟨⟨k2 + 1, n3 + n4, d2, by omega, by go_num, rfl, ?_, by simp⟩, by simp [intOf]; omega⟩
                  rw [HAL.out, ← Bool.and_assoc, HB2.out, HMK.out, HG.out]; rfl
                · have hi : idx s.G m = -1 := idx_none (ahas_false.1 (by simpa using hg))
                  rw [hi] at HGP
                  have HG := Aside0.mk (show ahas s.G m = false by simpa using hg)
                  clear hig hi hg
                  as_aux_lemma =>
                  go_wp2_with fail
                  (with_reducible refine HGP.out.mono ?_)
                  rintro e w4 ⟨rfl, hw⟩
                  obtain rfl := hw.symm
                  go_wp2_with fail
                  refine ⟨⟨k2 + 1, n3, true, by omega, by go_num, rfl, ?_, rfl⟩, by simp [intOf]; omega⟩
                  rw [HAL.out, ← Bool.and_assoc, HB2.out, HMK.out, HG.out]; rfl
            · obtain rfl : k2 = ms.length := by omega
              have hb3 := HB2.out
              rw [List.take_length] at hb3
              have hb4 : rk0 = b := HRDY.out.trans hb3
              clear hb3
              subst hb4
              cases rk0 with
              | false =>
                have HGN := Aside0.mk (HSN2.out rfl)
                as_aux_lemma =>
                go_wp2_with fail
                exact ⟨⟨k + 1, n3, by omega, by go_num, rfl, HGN.out, rfl⟩, by simp [intOf]; omega⟩
              | true =>
                have HPO := Aside0.mk (HPK.out rfl)
                have HA3 := Aside0.mk (show Own (wo.drewN n3) (.slice Aa out.length ca) out from HOWN.out.step (fun k _ => rfl))
                have HB3 := Aside0.mk (show Below W.heap.size W (wo.drewN n3) from HBR.out.trans ((pw_below_drewN (Below.refl _ wo) n3).mono HBR.out.size))
                as_aux_lemma =>
                go_wp2_with (at_builtin; refine stop_at ?_)
                unfold Stop
                refine Kd.N_append Kd.string (w0 := wo.drewN n3) 0 rfl _ _ 23 9 _ 16 rfl Tryz.underlying23 info9 rfl (by decide) (by decide) _ (out.map mkS) (mkS nm) [.string (mkS nm)] (fun k => (Value.slice Aa out.length ca).ownBlock = some k ∨ (wo.drewN n3).heap.size ≤ k) (fun _ => False) rfl rfl ?hp ?hok ?fresh ?HO ?HB ?hbase ?hl ?_
                case hp => exact fun _ _ => rfl
                case hok => exact fun b hb => hb.elim
                case fresh => exact fun b hb => .inr hb
                case HO => exact Kd.N_mono HA3.out (fun k hk => .inl hk)
                case HB => exact Below.refl _ _
                case hbase => exact Nat.zero_le _
                case hl => simp; omega
                intro v4 w4 hN4 hB4 hg4 hat4
                have hT4 : Turn (fun k => (Value.slice Aa out.length ca).ownBlock = some k) (wo.drewN n3) w4 := turn_grown hg4
                have hat4' : v4.ownBlock = (Value.slice Aa out.length ca).ownBlock ∨ ∃ b, v4.ownBlock = some b ∧ (wo.drewN n3).heap.size ≤ b := hat4
                have hown : Own w4 v4 (out ++ [nm]) := by
                  have : (out ++ [nm]).map mkS = out.map mkS ++ [mkS nm] := by simp
                  exact own_of (base := 0) (this ▸ hN4)
                have hb4 : Below W.heap.size W w4 := HB3.out.trans (hT4.below (fun k hk => HD.out k hk) HB3.out.size)
                have hd4 : ∀ k, v4.ownBlock = some k → W.heap.size ≤ k := fun k hk => by
                  rcases hat4' with h1 | ⟨b, h1, h2⟩
                  · rw [h1] at hk
                    exact HD.out k hk
                  · rw [h1] at hk
                    injection hk with hk
                    have := HB3.out.size
                    omega
                obtain ⟨A4, c4, e4⟩ := hown.slice
                rw [List.length_append, List.length_singleton] at e4
                subst e4
                have HO4 := Aside0.mk hown
                have HB4 := Aside0.mk hb4
                have HD4 := Aside0.mk hd4
                clear hN4 hB4 hg4 hat4 hT4 hat4' hown hb4 hd4
                go_wp2_with fail
                exact ⟨⟨out ++ [nm], HO4.out, HD4.out, HB4.out, HPO.out⟩, by simp only [slen]; have := HLT.out; omega⟩
        · obtain rfl : k = s.G.length := by omega
          obtain ⟨p, hp, hy⟩ := ord_more HS.out.sg HRK.out HLT.out
          obtain ⟨j, hj, rfl⟩ := List.mem_iff_getElem.1 hp
          rw [hno j hj hj] at hy
          cases hy
    · have hfull := ord_full HORD.out hlt
      have HFULL := Aside0.mk hfull
      clear hfull
      as_aux_lemma =>
      go_wp2_with fail
      go_ret
      exact ⟨_, out, rfl, Kd.V_mono HOWN.out.V (fun k hk => HD.out k hk), ⟨HORD.out, HFULL.out⟩, HBR.out⟩
end Go.Proofs.YtflioeiklcnncaaGreatDoor.Ri

set_option linter.unusedVariables false
set_option linter.unusedSimpArgs false
namespace Go.Proofs.YtflioeiklcnncaaGreatDoor.Ri
open Go.RowKit Go.Maps Go.Sort Go.Proofs.YtflioeiklcnncaaGreatDoorW.PrintWords Go.Proofs.YtflioeiklcnncaaGreatDoor.PRing

abbrev Stp := Int × B × B × List B
def stp (x : Stp) : S57 := ⟨x.1, mkS x.2.1, ints x.2.2.1, x.2.2.2.map mkS⟩
def doStep (s : St) (x : Stp) : Int × St := if x.1 = 0 then person1 s x.2.1 x.2.2.1 else if x.1 = 1 then group1 s x.2.1 x.2.2.2 else drop1 s x.2.1
theorem doStep_inv {s : St} (h : RInv s) (x : Stp) : RInv (doStep s x).2 := by
  unfold doStep
  split
  · exact person1_inv h _ _
  · split
    · exact group1_inv h _ _
    · exact drop1_inv h _
structure Both (W : World) (ok : Nat → Prop) (r bp bg q : Nat) (s : St) : Prop where
  ring : RingAt W ok r bp bg s
  ref : RefAt W ok q s
  inv : RInv s
def S3q (bp bg q : Nat) (k : Nat) : Prop := k = bp ∨ k = bg ∨ k = q
def RunPost (W : World) (ok : Nat → Prop) (r bp bg q : Nat) (e : Ending) (w' : World) : Prop :=
  ∃ s, e = .returned (.bool true) ∧ Both w' ok r bp bg q s ∧ Turn (S3q bp bg q) W w'
theorem stp_at {W : World} {ok : Nat → Prop} {A : Option Addr} {l : List Stp} (h : Kd.F k57 W ok A (l.map stp).length (l.map stp)) {k : Nat} (hk : k < l.length) :
    ∃ ad A2 c2 A3 c3, A = some ad ∧ W.cell? (ad.add (k * 4)) = some (.int .i64 l[k].1) ∧ W.cell? ⟨(ad.add (k * 4)).block, (ad.add (k * 4)).off + 1, none⟩ = some (.string (mkS l[k].2.1)) ∧
      W.cell? ⟨(ad.add (k * 4)).block, (ad.add (k * 4)).off + 2, none⟩ = some (.slice A2 l[k].2.2.1.length c2) ∧ W.cell? ⟨(ad.add (k * 4)).block, (ad.add (k * 4)).off + 3, none⟩ = some (.slice A3 l[k].2.2.2.length c3) ∧
      Bts W ok (.slice A2 l[k].2.2.1.length c2) l[k].2.2.1 ∧ Strs W ok (.slice A3 l[k].2.2.2.length c3) l[k].2.2.2 := by
  obtain ⟨ad, c, e, _, hK, hc, _⟩ := Kd.F_get h z57 (k : Int) (by omega) (by simp; omega)
  obtain ⟨A2, c2, A3, c3, rfl, l2, g2, l3, g3⟩ := k57_openF hK
  have e1 : (l.map stp).getD ((k : Int).toNat) z57 = stp l[k] := by simp [hk]
  rw [e1] at l2 g2 l3 g3 hc
  simp only [stp, List.length_map, ints_length] at l2 g2 l3 g3 hc
  refine ⟨ad, A2, c2, A3, c3, e, ?_, ?_, ?_, ?_, ⟨A2, c2, ?_, ?_, ?_⟩, ⟨A3, c3, ?_, ?_, ?_⟩⟩
  · exact hc 0 _ rfl
  · rw [← add_field _ _ 1 (by omega)]; exact hc 1 _ rfl
  · rw [← add_field _ _ 2 (by omega)]; exact hc 2 _ rfl
  · rw [← add_field _ _ 3 (by omega)]; exact hc 3 _ rfl
  · rw [ints_length]
  · rw [ints_length]; exact l2
  · rw [ints_length]; exact g2
  · rw [List.length_map]
  · rw [List.length_map]; exact l3
  · rw [List.length_map]; exact g3






-- RUN9
theorem four_cells {W : World} {q t : Nat} {u v x y : Value} (h : W.heap[q]? = some (.cells #[u, v, x, y] t (0, 0))) : W.cell? ⟨q, 0, none⟩ = some u ∧ W.cell? ⟨q, 1, none⟩ = some v ∧ W.cell? ⟨q, 2, none⟩ = some x ∧ W.cell? ⟨q, 3, none⟩ = some y := by
  refine ⟨?_, ?_, ?_, ?_⟩ <;> simp [World.cell?, h]
theorem RefAt.lt {W : World} {ok : Nat → Prop} {q : Nat} {s : St} (h : RefAt W ok q s) : q < W.heap.size := by
  obtain ⟨vp, vg, h1, _⟩ := h.blk
  exact (Array.getElem?_eq_some_iff.1 h1).1
theorem RingAt.lts {W : World} {ok : Nat → Prop} {r bp bg : Nat} {s : St} (h : RingAt W ok r bp bg s) : bp < W.heap.size ∧ bg < W.heap.size := by
  obtain ⟨f, h1, _⟩ := h.pm
  obtain ⟨g, h2, _⟩ := h.gm
  exact ⟨h1.lt, h2.lt⟩
def GS (x : Stp) : Prop := x.2.1.length ≤ 1000 ∧ x.2.2.1.length ≤ 1000 ∧ x.2.2.2.length ≤ 1000 ∧ ∀ m ∈ x.2.2.2, m.length ≤ 1000
theorem gs_of {x : Stp} (h : goodStep (stp x)) : GS x := by
  obtain ⟨h1, h2, h3, h4⟩ := h
  simp only [stp, mkS_size, ints_length, List.length_map] at h1 h2 h3 h4
  refine ⟨by omega, by omega, by omega, fun m hm => ?_⟩
  have := h4 (mkS m) (List.mem_map.2 ⟨m, hm, rfl⟩)
  rw [mkS_size] at this
  omega
set_option maxRecDepth 100000 in
set_option maxHeartbeats 8000000 in
theorem run9 {W : World} {ok : Nat → Prop} {r bp bg q K : Nat} {s0 : St} (h : Both W ok r bp bg q s0) (hne : q ≠ bp ∧ q ≠ bg) (hfr : ∀ k, W.heap.size ≤ k → ok k) {A : Option Addr} {c : Nat} {ls : List Stp} (hl : ls.length ≤ c)
    (hF : Kd.F k57 W (fun k => k < K) A (ls.map stp).length (ls.map stp)) (hK : K ≤ bp ∧ K ≤ bg ∧ K ≤ q) (hs : ∀ j, (hj : j < ls.length) → j < 80 → goodStep (stp ls[j])) :
    Calls Tryz.prog 9 #[.pointer (some ⟨r, 0, none⟩), .pointer (some ⟨q, 0, none⟩), .slice A ls.length c] W (RunPost W ok r bp bg q) := by
  have hmax : (ls.map stp).length ≤ 9223372036854775807 := Kd.F_max hF
  rw [List.length_map] at hmax
  have HNQ := Aside0.mk h.ref.qok
  have HOK := Aside0.mk (And.intro h.ring.pok h.ring.gok)
  have HB := Aside0.mk h
  have HNE := Aside0.mk hne
  have HFR := Aside0.mk hfr
  have HF := Aside0.mk hF
  have HKK := Aside0.mk hK
  have HSM := Aside0.mk hs
  clear h hne hfr hF hK hs
  go_enter Tryz.func9, Tryz.ntmps9
  go_wp2_with fail
  go_loopw [7] (fun i wr => ∃ (k : Nat) (s : St), k ≤ ls.length ∧ k ≤ 80 ∧ i = .int .i64 k ∧ Both wr ok r bp bg q s ∧ Turn (S3q bp bg q) W wr) (fun i _ => ls.length - (intOf i).toNat)
  case atStart => exact ⟨0, s0, Nat.zero_le _, Nat.zero_le _, rfl, HB.out, Turn.refl _ _⟩
  case round =>
    obtain ⟨k, s, hk, hk8, rfl, hb, htw⟩ := hrel
    have HBR := Aside0.mk hb
    have HTW := Aside0.mk htw
    by_cases hlt : k < ls.length
    · by_cases hlt8 : k < 80
      · have hF2 : Kd.F k57 wr (fun k => k < K) A (ls.map stp).length (ls.map stp) := Kd.F_step HF.out (fun k hk hlt => htw.block k hlt (fun e => by have := HKK.out; rcases e with e | e | e <;> omega))
        obtain ⟨ad, A2, c2, A3, c3, rfl, hc0, hc1, hc2, hc3, hpt, hms⟩ := stp_at hF2 hlt
        have hgs := gs_of (HSM.out k hlt hlt8)
        have hdi := doStep_inv hb.inv ls[k]
        obtain ⟨x, hx⟩ : ∃ x, x = ls[k] := ⟨_, rfl⟩
        rw [← hx] at hc0 hc1 hc2 hc3 hpt hms hgs hdi
        clear hx
        obtain ⟨kd, nm, pt, ms⟩ := x
        simp only at hc0 hc1 hc2 hc3 hpt hms
        obtain ⟨w1, hw1⟩ : ∃ w1, w1 = wr.alloc (.cells #[.int .i64 kd, .string (mkS nm), .slice A2 pt.length c2, .slice A3 ms.length c3] 57) := ⟨_, rfl⟩
        have hb01 : Below wr.heap.size wr w1 := by rw [hw1]; exact al_below _ (Below.refl _ _)
        have hD1 : w1.heap[wr.heap.size]? = some (.cells #[.int .i64 kd, .string (mkS nm), .slice A2 pt.length c2, .slice A3 ms.length c3] 57 (0, 0)) := by rw [hw1]; exact al_new _ rfl
        obtain ⟨d0, d1, d2, d3⟩ := four_cells hD1
        have hDlt : wr.heap.size < w1.heap.size := (Array.getElem?_eq_some_iff.1 hD1).1
        have hr1 : RingAt w1 ok r bp bg s := hb.ring.below hb01
        have hf1 : RefAt w1 ok q s := hb.ref.below hb01
        have HPT := Aside0.mk (show Bts w1 (fun k => k < K) (.slice A2 pt.length c2) pt from Kd.V_below hpt hb01)
        have HMS := Aside0.mk (show Strs w1 (fun k => k < K) (.slice A3 ms.length c3) ms from Kd.V_below hms hb01)
        have HGS := Aside0.mk (show nm.length ≤ 1000 ∧ pt.length ≤ 1000 ∧ ms.length ≤ 1000 ∧ ∀ m ∈ ms, m.length ≤ 1000 from hgs)
        have HDI := Aside0.mk hdi
        have HI := Aside0.mk hb.inv
        have HB01 := Aside0.mk hb01
        have HSZ := Aside0.mk (Nat.le_trans htw.size (Nat.le_of_lt hDlt))
        have hqlt := hb.ref.lt
        have hblt := hb.ring.lts.1
        have hglt := hb.ring.lts.2
        have HW1 := Aside0.mk hw1
        clear hpt hms hgs hdi hF2 hb htw hw1 d0 d1 d2 d3
        by_cases hk0 : kd = 0
        · have HDS := Aside0.mk (show doStep s (kd, nm, pt, ms) = person1 s nm pt by unfold doStep; rw [if_pos hk0])
          subst hk0
          as_aux_lemma =>
            go_wp2_with fail
            rw [← HW1.out]
            (with_reducible refine (Person_calls hr1 (HI.out.good.toSmlG.toSmlP.toSml) (fun k hk => HFR.out k (Nat.le_trans HSZ.out hk)) (mkS nm) (by rw [mkS_size]; exact HGS.out.1) HPT.out HGS.out.2.1).mono ?_)
            rintro e w2 ⟨rfl, hr2, ht2⟩
            try rw [bz_mkS] at hr2
            try rw [bz_mkS]
            have hs12 : w1.heap.size ≤ w2.heap.size := ht2.size
            have hq2 : RefAt w2 ok q s := hf1.turn ht2 (by rintro rfl; exact HNE.out.1 rfl) (fun k hk e => by exact HOK.out.1 (e ▸ hk))
            have hD2 : w2.heap[wr.heap.size]? = some (.cells #[.int .i64 0, .string (mkS nm), .slice A2 pt.length c2, .slice A3 ms.length c3] 57 (0, 0)) := (ht2.block _ hDlt (by omega)).trans hD1
            obtain ⟨e0, e1, e2, e3⟩ := four_cells hD2
            have hpt2 : Bts w2 (fun k => k < K) (.slice A2 pt.length c2) pt := ht2.V HPT.out (fun k hk e => by have := HKK.out; omega)
            have hms2 : Strs w2 (fun k => k < K) (.slice A3 ms.length c3) ms := ht2.V HMS.out (fun k hk e => by have := HKK.out; omega)
            have H22 := Aside0.mk (Person26 hq2 HI.out.good (fun k hk => HFR.out k (Nat.le_trans HSZ.out (Nat.le_trans hs12 hk))) nm HGS.out.1 hpt2 HGS.out.2.1)
            have HR2 := Aside0.mk hr2
            have HT2 := Aside0.mk ht2
            have HQ2 := Aside0.mk hq2
            clear hr2 ht2 hq2 hD2 hpt2 hms2
            go_wp2_with fail
            (with_reducible refine H22.out.mono ?_)
            rintro e w3 ⟨rfl, hq3, ht3⟩
            have hb3 : Both w3 ok r bp bg q (doStep s (0, nm, pt, ms)).2 := by
              have hdi2 := HDI.out
              rw [HDS.out] at hdi2 ⊢
              exact ⟨HR2.out.turn ht3 (fun k e => by subst e; exact ⟨HNQ.out, HNE.out.1, HNE.out.2⟩), hq3, hdi2⟩
            have ht13 : Turn (S3q bp bg q) W w3 := (HTW.out.trans (Turn.of_below HB01.out)).trans ((HT2.out.mono (fun k e => by exact .inl e)).trans (ht3.mono (fun k e => .inr (.inr e))))
            have HB3 := Aside0.mk hb3
            have HT13 := Aside0.mk ht13
            clear hq3 ht3 hb3 ht13 e0 e1 e2 e3 hs12
            have hg3 : Good (doStep s (0, nm, pt, ms)).2 := HDI.out.good
            have hpp := People_calls HB3.out.ring hg3.p hg3.ps
            have HPP := Aside0.mk hpp
            clear hpp
            go_wp2_with fail
            (with_reducible refine HPP.out.mono ?_)
            rintro e w4 ⟨vp4, rfl, hp4, hb4⟩
            have hb4r := HB3.out.ring.below hb4
            have hb4f := HB3.out.ref.below hb4
            have hgg := Groups_calls hb4r hg3.g (fun p hp => hg3.gs p hp)
            have HGG := Aside0.mk hgg
            have HP4 := Aside0.mk hp4
            have HB4 := Aside0.mk hb4
            have HB4R := Aside0.mk hb4r
            have HB4F := Aside0.mk hb4f
            clear hgg hp4 hb4 hb4r hb4f
            go_wp2_with fail
            (with_reducible refine HGG.out.mono ?_)
            rintro e w5 ⟨vg5, rfl, hg5, hb5⟩
            have hsm := Same29 (HB4F.out.below hb5) hg3 (Kd.V_below HP4.out hb5) hg5
            have HSM := Aside0.mk hsm
            have HB5R := Aside0.mk (HB4R.out.below hb5)
            have HB5F := Aside0.mk (HB4F.out.below hb5)
            have HT5 := Aside0.mk ((HT13.out.trans (Turn.of_below HB4.out)).trans (Turn.of_below hb5))
            clear hsm hg5 hb5
            go_wp2_with fail
            (with_reducible refine HSM.out.mono ?_)
            rintro e w6 ⟨rfl, n6, rfl⟩
            have HREL := Aside0.mk (show Both (w5.drewN n6) ok r bp bg q (doStep s (0, nm, pt, ms)).2 ∧ Turn (S3q bp bg q) W (w5.drewN n6) from
              ⟨⟨HB5R.out.below (pw_below_drewN (Below.refl _ _) n6), HB5F.out.below (pw_below_drewN (Below.refl _ _) n6), HDI.out⟩, HT5.out.trans (Turn.of_below (pw_below_drewN (Below.refl _ _) n6))⟩)
            go_wp2_with fail
            go_roundw
            case measure => simp [intOf]; omega
            case rel =>
              exact ⟨k + 1, _, by omega, by omega, by go_num, HREL.out.1, HREL.out.2⟩
        · by_cases hk1 : kd = 1
          · have HDS := Aside0.mk (show doStep s (kd, nm, pt, ms) = group1 s nm ms by unfold doStep; rw [if_neg hk0, if_pos hk1])
            subst hk1
            as_aux_lemma =>
              go_wp2_with fail
              rw [← HW1.out]
              (with_reducible refine (Group_calls hr1 (HI.out.good.toSmlG.toSmlP.toSml) (fun k hk => HFR.out k (Nat.le_trans HSZ.out hk)) (mkS nm) (by rw [mkS_size]; exact HGS.out.1) HMS.out HGS.out.2.2.1 HGS.out.2.2.2).mono ?_)
              rintro e w2 ⟨rfl, hr2, ht2⟩
              try rw [bz_mkS] at hr2
              try rw [bz_mkS]
              have hs12 : w1.heap.size ≤ w2.heap.size := ht2.size
              have hq2 : RefAt w2 ok q s := hf1.turn ht2 (by rintro rfl; exact HNE.out.2 rfl) (fun k hk e => by exact HOK.out.2 (e ▸ hk))
              have hD2 : w2.heap[wr.heap.size]? = some (.cells #[.int .i64 1, .string (mkS nm), .slice A2 pt.length c2, .slice A3 ms.length c3] 57 (0, 0)) := (ht2.block _ hDlt (by omega)).trans hD1
              obtain ⟨e0, e1, e2, e3⟩ := four_cells hD2
              have hpt2 : Bts w2 (fun k => k < K) (.slice A2 pt.length c2) pt := ht2.V HPT.out (fun k hk e => by have := HKK.out; omega)
              have hms2 : Strs w2 (fun k => k < K) (.slice A3 ms.length c3) ms := ht2.V HMS.out (fun k hk e => by have := HKK.out; omega)
              have H22 := Aside0.mk (Group27 hq2 HI.out.good (fun k hk => HFR.out k (Nat.le_trans HSZ.out (Nat.le_trans hs12 hk))) nm HGS.out.1 hms2 HGS.out.2.2.1)
              have HR2 := Aside0.mk hr2
              have HT2 := Aside0.mk ht2
              have HQ2 := Aside0.mk hq2
              clear hr2 ht2 hq2 hD2 hpt2 hms2
              go_wp2_with fail
              (with_reducible refine H22.out.mono ?_)
              rintro e w3 ⟨rfl, hq3, ht3⟩
              have hb3 : Both w3 ok r bp bg q (doStep s (1, nm, pt, ms)).2 := by
                have hdi2 := HDI.out
                rw [HDS.out] at hdi2 ⊢
                exact ⟨HR2.out.turn ht3 (fun k e => by subst e; exact ⟨HNQ.out, HNE.out.1, HNE.out.2⟩), hq3, hdi2⟩
              have ht13 : Turn (S3q bp bg q) W w3 := (HTW.out.trans (Turn.of_below HB01.out)).trans ((HT2.out.mono (fun k e => by exact .inr (.inl e))).trans (ht3.mono (fun k e => .inr (.inr e))))
              have HB3 := Aside0.mk hb3
              have HT13 := Aside0.mk ht13
              clear hq3 ht3 hb3 ht13 e0 e1 e2 e3 hs12
              have hg3 : Good (doStep s (1, nm, pt, ms)).2 := HDI.out.good
              have hpp := People_calls HB3.out.ring hg3.p hg3.ps
              have HPP := Aside0.mk hpp
              clear hpp
              go_wp2_with fail
              (with_reducible refine HPP.out.mono ?_)
              rintro e w4 ⟨vp4, rfl, hp4, hb4⟩
              have hb4r := HB3.out.ring.below hb4
              have hb4f := HB3.out.ref.below hb4
              have hgg := Groups_calls hb4r hg3.g (fun p hp => hg3.gs p hp)
              have HGG := Aside0.mk hgg
              have HP4 := Aside0.mk hp4
              have HB4 := Aside0.mk hb4
              have HB4R := Aside0.mk hb4r
              have HB4F := Aside0.mk hb4f
              clear hgg hp4 hb4 hb4r hb4f
              go_wp2_with fail
              (with_reducible refine HGG.out.mono ?_)
              rintro e w5 ⟨vg5, rfl, hg5, hb5⟩
              have hsm := Same29 (HB4F.out.below hb5) hg3 (Kd.V_below HP4.out hb5) hg5
              have HSM := Aside0.mk hsm
              have HB5R := Aside0.mk (HB4R.out.below hb5)
              have HB5F := Aside0.mk (HB4F.out.below hb5)
              have HT5 := Aside0.mk ((HT13.out.trans (Turn.of_below HB4.out)).trans (Turn.of_below hb5))
              clear hsm hg5 hb5
              go_wp2_with fail
              (with_reducible refine HSM.out.mono ?_)
              rintro e w6 ⟨rfl, n6, rfl⟩
              have HREL := Aside0.mk (show Both (w5.drewN n6) ok r bp bg q (doStep s (1, nm, pt, ms)).2 ∧ Turn (S3q bp bg q) W (w5.drewN n6) from
                ⟨⟨HB5R.out.below (pw_below_drewN (Below.refl _ _) n6), HB5F.out.below (pw_below_drewN (Below.refl _ _) n6), HDI.out⟩, HT5.out.trans (Turn.of_below (pw_below_drewN (Below.refl _ _) n6))⟩)
              go_wp2_with fail
              go_roundw
              case measure => simp [intOf]; omega
              case rel =>
                exact ⟨k + 1, _, by omega, by omega, by go_num, HREL.out.1, HREL.out.2⟩
          · have HDS := Aside0.mk (show doStep s (kd, nm, pt, ms) = drop1 s nm by unfold doStep; rw [if_neg hk0, if_neg hk1])
            have hk0' : (kd == 0) = false := by simpa using hk0
            have hk1' : (kd == 1) = false := by simpa using hk1
            as_aux_lemma =>
              go_wp2_with fail
              rw [← HW1.out]
              (with_reducible refine (Drop_calls hr1 (mkS nm) (by rw [mkS_size]; exact HGS.out.1)).mono ?_)
              rintro e w2 ⟨rfl, hr2, ht2⟩
              try rw [bz_mkS] at hr2
              try rw [bz_mkS]
              have hs12 : w1.heap.size ≤ w2.heap.size := ht2.size
              have hq2 : RefAt w2 ok q s := hf1.turn ht2 (by exact fun e => e.elim (fun e => HNE.out.1 e) (fun e => HNE.out.2 e)) (fun k hk e => by exact e.elim (fun e => HOK.out.1 (e ▸ hk)) (fun e => HOK.out.2 (e ▸ hk)))
              have hD2 : w2.heap[wr.heap.size]? = some (.cells #[.int .i64 kd, .string (mkS nm), .slice A2 pt.length c2, .slice A3 ms.length c3] 57 (0, 0)) := (ht2.block _ hDlt (by omega)).trans hD1
              obtain ⟨e0, e1, e2, e3⟩ := four_cells hD2
              have hpt2 : Bts w2 (fun k => k < K) (.slice A2 pt.length c2) pt := ht2.V HPT.out (fun k hk e => by have := HKK.out; omega)
              have hms2 : Strs w2 (fun k => k < K) (.slice A3 ms.length c3) ms := ht2.V HMS.out (fun k hk e => by have := HKK.out; omega)
              have H22 := Aside0.mk (Drop28 hq2 HI.out.good (fun k hk => HFR.out k (Nat.le_trans HSZ.out (Nat.le_trans hs12 hk))) nm)
              have HR2 := Aside0.mk hr2
              have HT2 := Aside0.mk ht2
              have HQ2 := Aside0.mk hq2
              clear hr2 ht2 hq2 hD2 hpt2 hms2
              go_wp2_with fail
              (with_reducible refine H22.out.mono ?_)
              rintro e w3 ⟨rfl, hq3, ht3⟩
              have hb3 : Both w3 ok r bp bg q (doStep s (kd, nm, pt, ms)).2 := by
                have hdi2 := HDI.out
                rw [HDS.out] at hdi2 ⊢
                exact ⟨HR2.out.turn ht3 (fun k e => by subst e; exact ⟨HNQ.out, HNE.out.1, HNE.out.2⟩), hq3, hdi2⟩
              have ht13 : Turn (S3q bp bg q) W w3 := (HTW.out.trans (Turn.of_below HB01.out)).trans ((HT2.out.mono (fun k e => by exact e.elim .inl (fun e => .inr (.inl e)))).trans (ht3.mono (fun k e => .inr (.inr e))))
              have HB3 := Aside0.mk hb3
              have HT13 := Aside0.mk ht13
              clear hq3 ht3 hb3 ht13 e0 e1 e2 e3 hs12
              have hg3 : Good (doStep s (kd, nm, pt, ms)).2 := HDI.out.good
              have hpp := People_calls HB3.out.ring hg3.p hg3.ps
              have HPP := Aside0.mk hpp
              clear hpp
              go_wp2_with fail
              (with_reducible refine HPP.out.mono ?_)
              rintro e w4 ⟨vp4, rfl, hp4, hb4⟩
              have hb4r := HB3.out.ring.below hb4
              have hb4f := HB3.out.ref.below hb4
              have hgg := Groups_calls hb4r hg3.g (fun p hp => hg3.gs p hp)
              have HGG := Aside0.mk hgg
              have HP4 := Aside0.mk hp4
              have HB4 := Aside0.mk hb4
              have HB4R := Aside0.mk hb4r
              have HB4F := Aside0.mk hb4f
              clear hgg hp4 hb4 hb4r hb4f
              go_wp2_with fail
              (with_reducible refine HGG.out.mono ?_)
              rintro e w5 ⟨vg5, rfl, hg5, hb5⟩
              have hsm := Same29 (HB4F.out.below hb5) hg3 (Kd.V_below HP4.out hb5) hg5
              have HSM := Aside0.mk hsm
              have HB5R := Aside0.mk (HB4R.out.below hb5)
              have HB5F := Aside0.mk (HB4F.out.below hb5)
              have HT5 := Aside0.mk ((HT13.out.trans (Turn.of_below HB4.out)).trans (Turn.of_below hb5))
              clear hsm hg5 hb5
              go_wp2_with fail
              (with_reducible refine HSM.out.mono ?_)
              rintro e w6 ⟨rfl, n6, rfl⟩
              have HREL := Aside0.mk (show Both (w5.drewN n6) ok r bp bg q (doStep s (kd, nm, pt, ms)).2 ∧ Turn (S3q bp bg q) W (w5.drewN n6) from
                ⟨⟨HB5R.out.below (pw_below_drewN (Below.refl _ _) n6), HB5F.out.below (pw_below_drewN (Below.refl _ _) n6), HDI.out⟩, HT5.out.trans (Turn.of_below (pw_below_drewN (Below.refl _ _) n6))⟩)
              go_wp2_with fail
              go_roundw
              case measure => simp [intOf]; omega
              case rel =>
                exact ⟨k + 1, _, by omega, by omega, by go_num, HREL.out.1, HREL.out.2⟩
      · obtain rfl : k = 80 := by omega
        as_aux_lemma =>
        clear hb htw
        go_wp2_with fail
        go_ret
        exact ⟨s, rfl, HBR.out, HTW.out⟩
    · obtain rfl : k = ls.length := by omega
      as_aux_lemma =>
      clear hb htw
      go_wp2_with fail
      go_ret
      exact ⟨s, rfl, HBR.out, HTW.out⟩
end Go.Proofs.YtflioeiklcnncaaGreatDoor.Ri

set_option linter.unusedVariables false
set_option linter.unusedSimpArgs false
namespace Go.Proofs.YtflioeiklcnncaaGreatDoor.Ri
open Go.RowKit Go.Maps Go.Sort Go.Proofs.YtflioeiklcnncaaGreatDoorW.PrintWords Go.Proofs.YtflioeiklcnncaaGreatDoor.PRing

def annB : B := [97, 110, 110]
def teamB : B := [116, 101, 97, 109]
def xB : B := [120]
def zs32 : B := List.replicate 32 0
def st1 : St := ⟨[(annB, zs32)], []⟩
def st2 : St := ⟨[(annB, zs32)], [(teamB, [annB])]⟩
def zW (w : World) : World := w.alloc (.cells (madeCells #[.int .u8 0] 32) 5)
theorem zW_run (w : World) : (Instr.makeSlice 24 (.int .i64 32) (.int .i64 32)).run Tryz.prog w = .ok (.slice (some ⟨w.heap.size, 0, none⟩) 32 32) (zW w) := print_make 24 5 .u8 1 Tryz.underlying24 info5 (by decide) 32 (by decide) w
theorem zW_below (w : World) : Below w.heap.size w (zW w) := al_below _ (Below.refl _ _)
theorem zW_bts (w : World) : Bts (zW w) (fun k => w.heap.size ≤ k) (.slice (some ⟨w.heap.size, 0, none⟩) 32 32) zs32 := by
  have h := own_made w w.heap.size 5 .u8 32 (Nat.le_refl _) (by decide)
  have h2 : (zW w).ownsRow w.heap.size 5 1 (.slice (some ⟨w.heap.size, 0, none⟩) 32 32) (ints zs32).length (encs (Value.int .u8) (ints zs32)) := h
  exact V_of_own h2
theorem strs_own {w : World} {b : Nat} {x : B} (h : w.heap[b]? = some (.cells #[.string (mkS x)] 9 (0, 0))) : Strs w (fun k => k = b) (.slice (some ⟨b, 0, none⟩) 1 1) [x] := by
  refine ⟨some ⟨b, 0, none⟩, 1, rfl, Nat.le_refl _, fun W' hW => ?_⟩
  have h2 := hW b rfl (Array.getElem?_eq_some_iff.1 h).1
  refine Kd.C_of_reads (d := ByteArray.empty) ⟨rfl, by simp, fun _ => ⟨_, rfl, fun j hj => ?_⟩⟩
  obtain rfl : j = 0 := by simp at hj; omega
  have : W'.heap[b]? = some (.cells #[.string (mkS x)] 9 (0, 0)) := h2.trans h
  simp [World.cell?, Addr.add, this]
theorem person_ann : person1 ⟨[], []⟩ annB zs32 = (0, st1) := by rfl
theorem group_team : group1 st1 teamB [annB] = (0, st2) := by rfl
theorem drop_ann : drop1 st2 annB = (1, st2) := by rfl
theorem inv1 : RInv st1 := by
  have := person1_inv inv0 annB zs32
  rwa [person_ann] at this
theorem inv2 : RInv st2 := by
  have := group1_inv inv1 teamB [annB]
  rwa [group_team] at this
theorem mem2_team : mem st2 teamB = [annB] := by rfl
theorem mem2_ann : mem st2 annB = [] := by rfl
theorem pts_team : PtsSpec st2 [teamB] 0 [zs32] := by
  have hr : ∀ x, RchN st2 [teamB] x ↔ x = teamB ∨ x = annB := fun x => by
    constructor
    · rintro ⟨n, hn, hr⟩
      rw [List.mem_singleton.1 hn] at hr
      have := rch_closed (V := [teamB, annB]) (fun y hy m hm => by
        rcases List.mem_cons.1 hy with rfl | hy
        · rw [mem2_team] at hm; rw [List.mem_singleton.1 hm]; simp
        · rw [List.mem_singleton.1 hy, mem2_ann] at hm; simp at hm) (by simp : teamB ∈ [teamB, annB]) hr
      simpa using this
    · rintro (rfl | rfl)
      · exact ⟨teamB, by simp, .refl⟩
      · exact ⟨teamB, by simp, .step .refl (by rw [mem2_team]; simp)⟩
  refine .inr ⟨fun x hx => ?_, [zs32], by simp, fun p => ?_, .inr ⟨by simp, rfl, rfl⟩⟩
  · rcases (hr x).1 hx with rfl | rfl <;> rfl
  · rw [List.mem_singleton]
    constructor
    · rintro rfl
      exact ⟨annB, (hr _).2 (.inr rfl), by simp [st2]⟩
    · rintro ⟨x, hx, hp⟩
      simp only [st2, List.mem_singleton, Prod.mk.injEq] at hp
      exact hp.2
theorem pts_x : PtsSpec st2 [xB] 4 [] := .inl ⟨rfl, rfl, xB, ⟨xB, by simp, .refl⟩, by rfl⟩
theorem who_ann : who st2 zs32 = annB := by rfl
theorem mkS_ann : (⟨#[97, 110, 110]⟩ : ByteArray) = mkS annB := rfl
theorem mkS_team : (⟨#[116, 101, 97, 109]⟩ : ByteArray) = mkS teamB := rfl
theorem mkS_x : (⟨#[120]⟩ : ByteArray) = mkS xB := rfl
theorem RingAt.rlt {W : World} {ok : Nat → Prop} {r bp bg : Nat} {s : St} (h : RingAt W ok r bp bg s) : r < W.heap.size := World.block_lt_of_cell? W _ h.c0
set_option maxRecDepth 100000 in
set_option maxHeartbeats 4000000 in
theorem awake6 (W : World) : Calls Tryz.prog 6 #[] W fun e w' => e = .returned (.bool true) ∧ Below W.heap.size W w' := by
  have hmk := zW_run
  go_enter Tryz.func6, Tryz.ntmps6
  go_wp2_with fail
  (with_reducible refine (New_calls W).mono ?_)
  rintro e w1 ⟨rfl, hr1, hb1⟩
  have hz1 := zW_below w1
  have hl1 := hr1.rlt
  have hfr1 : ∀ k, w1.heap.size ≤ k → W.heap.size + 1 + 1 ≤ k := fun k hk => by omega
  have hc := Person_calls (hr1.below hz1) inv0.good.toSmlG.toSmlP.toSml (fun k hk => hfr1 k (Nat.le_trans hz1.size hk)) (mkS annB) (by decide) (zW_bts w1) (by decide)
  rw [bz_mkS, person_ann] at hc
  have HC := Aside0.mk hc
  have HB := Aside0.mk (hb1.trans (hz1.mono hb1.size))
  have HF := Aside0.mk hfr1
  have HZ := Aside0.mk hz1
  clear hc hb1 hfr1 hz1 hr1 hl1
  go_wp2_with fail
  rw [mkS_ann]
  (with_reducible refine HC.out.mono ?_)
  rintro e w2 ⟨rfl, hr2, ht2⟩
  have hb2 : Below W.heap.size W w2 := HB.out.trans (ht2.below (fun k hk => by omega) HB.out.size)
  obtain ⟨w3, hw3⟩ : ∃ w3, w3 = w2.alloc (.cells #[.string (mkS annB)] 9) := ⟨_, rfl⟩
  have hb3 : Below w2.heap.size w2 w3 := by rw [hw3]; exact al_below _ (Below.refl _ _)
  have hs3 : Strs w3 (fun k => k = w2.heap.size) (.slice (some ⟨w2.heap.size, 0, none⟩) 1 1) [annB] := strs_own (by rw [hw3]; exact al_new _ rfl)
  have hsz2 := ht2.size
  have hc := Group_calls (hr2.below hb3) inv1.good.toSmlG.toSmlP.toSml (fun k hk => HF.out k (Nat.le_trans HZ.out.size (Nat.le_trans hsz2 (Nat.le_trans hb3.size hk)))) (mkS teamB) (by decide) hs3 (by decide) (fun x hx => by rw [List.mem_singleton.1 hx]; decide)
  rw [bz_mkS, group_team] at hc
  have HC2 := Aside0.mk hc
  have HW3 := Aside0.mk hw3
  have HB3 := Aside0.mk (hb2.trans (hb3.mono hb2.size))
  clear hc hw3 hb3 hs3 hr2 ht2 hb2 hsz2 HC HZ HF HB
  go_wp2_with fail
  rw [mkS_ann, mkS_team, ← HW3.out]
  (with_reducible refine HC2.out.mono ?_)
  rintro e w4 ⟨rfl, hr4, ht4⟩
  have hb4 : Below W.heap.size W w4 := HB3.out.trans (ht4.below (fun k hk => by omega) HB3.out.size)
  obtain ⟨w5, hw5⟩ : ∃ w5, w5 = w4.alloc (.cells #[.string (mkS teamB)] 9) := ⟨_, rfl⟩
  have hb5 : Below w4.heap.size w4 w5 := by rw [hw5]; exact al_below _ (Below.refl _ _)
  have hs5 : Strs w5 (fun k => k = w4.heap.size) (.slice (some ⟨w4.heap.size, 0, none⟩) 1 1) [teamB] := strs_own (by rw [hw5]; exact al_new _ rfl)
  have hr5 := hr4.below hb5
  have hc := Points_calls hr5 inv2.good.toSmlG.toSmlP inv2.keys hs5 (by decide) (fun x hx => by rw [List.mem_singleton.1 hx]; decide)
  have HC5 := Aside0.mk hc
  have HW5 := Aside0.mk hw5
  have HR5 := Aside0.mk hr5
  have HB5 := Aside0.mk (hb4.trans (hb5.mono hb4.size))
  clear hc hw5 hb5 hs5 hr4 ht4 hb4 hr5 HC2 HW3 HB3
  go_wp2_with fail
  rw [mkS_team, ← HW5.out]
  (with_reducible refine HC5.out.mono ?_)
  rintro e w6 ⟨v6, code6, rows6, rfl, hv6, hp6, hb6⟩
  obtain ⟨rfl, rfl⟩ := pts_one hp6 pts_team
  obtain ⟨A6, c6, rfl, hl6, hf6⟩ := hv6
  have hr6 := HR5.out.below hb6
  have hb6' : Below W.heap.size W w6 := HB5.out.trans (hb6.mono HB5.out.size)
  obtain ⟨w7, hw7⟩ : ∃ w7, w7 = w6.alloc (.cells #[.string (mkS xB)] 9) := ⟨_, rfl⟩
  have hb7 : Below w6.heap.size w6 w7 := by rw [hw7]; exact al_below _ (Below.refl _ _)
  have hs7 : Strs w7 (fun k => k = w6.heap.size) (.slice (some ⟨w6.heap.size, 0, none⟩) 1 1) [xB] := strs_own (by rw [hw7]; exact al_new _ rfl)
  have hr7 := hr6.below hb7
  have hc := Points_calls hr7 inv2.good.toSmlG.toSmlP inv2.keys hs7 (by decide) (fun x hx => by rw [List.mem_singleton.1 hx]; decide)
  have HC7 := Aside0.mk hc
  have HW7 := Aside0.mk hw7
  have HR7 := Aside0.mk hr7
  have HB7 := Aside0.mk (hb6'.trans (hb7.mono hb6'.size))
  clear hc hw7 hb7 hs7 hr6 hp6 hb6 hb6' hr7 hl6 hf6 HC5 HW5 HB5 HR5
  go_wp2_with fail
  rw [mkS_x, ← HW7.out]
  (with_reducible refine HC7.out.mono ?_)
  rintro e w8 ⟨v8, code8, rows8, rfl, hv8, hp8, hb8⟩
  obtain ⟨rfl, rfl⟩ := pts_one hp8 pts_x
  have hr8 := HR7.out.below hb8
  have hc := Drop_calls hr8 (mkS annB) (by decide)
  rw [bz_mkS, drop_ann] at hc
  have HC8 := Aside0.mk hc
  have HB8 := Aside0.mk (HB7.out.trans (hb8.mono HB7.out.size))
  clear hc hr8 hv8 hp8 hb8 HC7 HW7 HB7 HR7
  go_wp2_with fail
  rw [mkS_ann]
  (with_reducible refine HC8.out.mono ?_)
  rintro e w9 ⟨rfl, hr9, ht9⟩
  have hz9 := zW_below w9
  have hc := Who_calls (hr9.below hz9) inv2.good.p inv2.good.ps (zW_bts w9)
  rw [who_ann] at hc
  have HC9 := Aside0.mk hc
  have hb9 : Below W.heap.size W w9 := HB8.out.trans (ht9.below (fun k hk => by omega) HB8.out.size)
  have HB9 := Aside0.mk (hb9.trans (hz9.mono hb9.size))
  clear hc hz9 hb9 hr9 ht9 HC8 HB8
  go_wp2_with fail
  (with_reducible refine HC9.out.mono ?_)
  rintro e w10 ⟨rfl, hb10⟩
  have HB10 := Aside0.mk (HB9.out.trans (hb10.mono HB9.out.size))
  clear hb10
  go_wp2_with fail
  go_ret
  exact ⟨by show Ending.returned (.bool ((mkS annB).toList == [97, 110, 110])) = _; rw [mkS_toList]; rfl, HB10.out⟩
end Go.Proofs.YtflioeiklcnncaaGreatDoor.Ri

set_option linter.unusedVariables false
set_option linter.unusedSimpArgs false
namespace Go.Proofs.YtflioeiklcnncaaGreatDoor.Ri
open Go.RowKit Go.Maps Go.Sort Go.Proofs.YtflioeiklcnncaaGreatDoorW.PrintWords Go.Proofs.YtflioeiklcnncaaGreatDoor.PRing

def okR (bp bg q : Nat) (k : Nat) : Prop := k ≠ bp ∧ k ≠ bg ∧ k ≠ q
def refO : Obj := .cells #[.slice none 0 0, .slice none 0 0] 33
theorem both0 {w3 : World} {r bp bg : Nat} {ok : Nat → Prop} (h : RingAt w3 ok r bp bg ⟨[], []⟩) : Both (w3.alloc refO) (okR bp bg w3.heap.size) r bp bg w3.heap.size ⟨[], []⟩ := by
  have hb := al_below refO (Below.refl w3.heap.size w3)
  have h2 := h.below hb
  have hr := h.rlt
  refine ⟨⟨h2.c0, h2.c1, ⟨h2.bl.1, h2.bl.2, by omega⟩, h2.bne, fun e => e.1 rfl, fun e => e.2.1 rfl, ?_, ?_⟩, ⟨⟨_, _, al_new _ rfl, Kd.V_nil _ _ _ _ _, Kd.V_nil _ _ _ _ _⟩, fun e => e.2.2 rfl⟩, inv0⟩
  · obtain ⟨f, hf, _⟩ := h2.pm
    exact ⟨f, hf, fun p hp => by simp at hp⟩
  · obtain ⟨f, hf, _⟩ := h2.gm
    exact ⟨f, hf, fun p hp => by simp at hp⟩
theorem Both.fresh {W : World} {ok : Nat → Prop} {r bp bg q : Nat} {s : St} (h : Both W ok r bp bg q s) : ∀ k, W.heap.size ≤ k → okR bp bg q k := fun k hk => by
  have h1 := h.ring.lts
  have h2 := h.ref.lt
  exact ⟨by omega, by omega, by omega⟩
theorem Both.below {W W' : World} {ok : Nat → Prop} {r bp bg q : Nat} {s : St} (h : Both W ok r bp bg q s) (hb : Below W.heap.size W W') : Both W' ok r bp bg q s := ⟨h.ring.below hb, h.ref.below hb, h.inv⟩
set_option maxRecDepth 100000 in
set_option maxHeartbeats 4000000 in
theorem Plays3 {W : World} {A : Option Addr} {c : Nat} {ls : List Stp} (hl : ls.length ≤ c) (hF : Kd.F k57 W (fun k => k < W.heap.size) A (ls.map stp).length (ls.map stp)) {nv : Value} {names : List B} (hn : Strs W (fun k => k < W.heap.size) nv names) (hns : ∀ x ∈ names, x.length ≤ 9223372036854775807)
    {pv : Value} {pt : B} (hp : Bts W (fun k => k < W.heap.size) pv pt) :
    Calls Tryz.prog 3 #[.slice A ls.length c, nv, pv] W fun e w' => e = .returned (.bool true) ∧ Below W.heap.size W w' := by
  obtain ⟨An, cn, rfl, hln, hfn⟩ := hn
  obtain ⟨Ap, cp, rfl, hlp, hfp⟩ := hp
  have hm1 := Kd.F_max hfn
  have hm2 := Kd.F_max hfp
  have hm3 := Kd.F_max hF
  rw [List.length_map] at hm1 hm3 hln hfn
  rw [ints_length] at hm2 hlp hfp
  rw [List.length_map, ints_length]
  have HF := Aside0.mk hF
  have HN := Aside0.mk (Strs.mk' hfn hln)
  have HP := Aside0.mk (Bts.mk' hfp hlp)
  have HL := Aside0.mk hl
  have HNS := Aside0.mk hns
  clear hF hfn hfp hln hlp hns hl
  go_enter Tryz.func3, Tryz.ntmps3
  go_wp2_with fail
  (with_reducible refine (awake6 W).mono ?_)
  rintro e w1 ⟨rfl, hb1⟩
  have hF1 := Kd.F_below HF.out hb1
  have hlen : (ls.map stp).length = ls.length := List.length_map ..
  have hsm := small7 (c := c) (Kd.F_now hF1) (by rw [hlen]; exact HL.out)
  rw [hlen] at hsm
  have HSM := Aside0.mk hsm
  have HB1 := Aside0.mk hb1
  clear hF1 hlen hsm hb1
  go_wp2_with fail
  (with_reducible refine HSM.out.mono ?_)
  rintro e w2 ⟨b, rfl, ⟨n2, rfl⟩, hgood⟩
  have HB2 := Aside0.mk (HB1.out.trans ((pw_below_drewN (Below.refl _ w1) n2).mono HB1.out.size))
  have HGD := Aside0.mk hgood
  clear hgood
  cases b with
  | false =>
    as_aux_lemma =>
    go_wp2_with fail
    go_ret
    exact ⟨rfl, HB2.out⟩
  | true =>
    by_cases h100 : 100 < names.length
    · as_aux_lemma =>
      go_wp2_with fail
      go_ret
      exact ⟨rfl, HB2.out⟩
    by_cases h200 : 100 < pt.length
    · as_aux_lemma =>
      go_wp2_with fail
      go_ret
      exact ⟨rfl, HB2.out⟩
    have hgs : ∀ j, (hj : j < ls.length) → j < 80 → goodStep (stp ls[j]) := fun j hj hj8 => by
      have := HGD.out rfl j (by simpa using hj) hj8
      simpa using this
    have HGS := Aside0.mk hgs
    clear hgs
    go_wp2_with fail
    -- START
    (with_reducible refine (New_calls _).mono ?_)
    rintro e w3 ⟨rfl, hr3, hb3⟩
    have hboth := both0 hr3
    obtain ⟨w4, hw4⟩ : ∃ w4, w4 = w3.alloc refO := ⟨_, rfl⟩
    rw [← hw4] at hboth
    have hb4 : Below w3.heap.size w3 w4 := by rw [hw4]; exact al_below _ (Below.refl _ _)
    have hb03 : Below W.heap.size W w3 := HB2.out.trans (hb3.mono HB2.out.size)
    have hb04 : Below W.heap.size W w4 := hb03.trans (hb4.mono hb03.size)
    have hbp : W.heap.size ≤ (w1.drewN n2).heap.size := HB2.out.size
    have hq3 : (w1.drewN n2).heap.size + 1 + 1 < w3.heap.size := hr3.rlt
    have hrun := run9 hboth (by omega) hboth.fresh (K := W.heap.size) HL.out (Kd.F_below HF.out hb04) (by omega) HGS.out
    have HRUN := Aside0.mk hrun
    have HW4 := Aside0.mk (show w3.alloc (.cells #[.slice none 0 0, .slice none 0 0] 33) = w4 from hw4.symm)
    have HB4 := Aside0.mk hb04
    generalize hbpn : (w1.drewN n2).heap.size = bp at HRUN hbp hq3 ⊢
    clear hrun hw4 hb3 hb4 hb03 hb04 hboth hr3 hbpn
    go_wp2_with fail
    rw [HW4.out]
    (with_reducible refine HRUN.out.mono ?_)
    rintro e w5 ⟨s, rfl, hb5, ht5⟩
    have hB5 : Below W.heap.size W w5 := HB4.out.trans (ht5.below (fun k hk => by unfold S3q at hk; omega) HB4.out.size)
    have HB5 := Aside0.mk hB5
    have HBO := Aside0.mk hb5
    have HI := Aside0.mk hb5.inv
    clear hb5 ht5 hB5 HRUN HW4 HB4
    have hpts := Points_calls HBO.out.ring HI.out.good.toSmlG.toSmlP HI.out.keys (Kd.V_below HN.out HB5.out) (by omega) HNS.out
    have HPTS := Aside0.mk hpts
    clear hpts
    go_wp2_with fail
    (with_reducible refine HPTS.out.mono ?_)
    rintro e w6 ⟨v6, code6, rows6, rfl, hv6, hp6, hb6⟩
    obtain ⟨A6, c6, rfl, hl6, hf6⟩ := hv6
    have hbo6 := HBO.out.below hb6
    have hB6 : Below W.heap.size W w6 := HB5.out.trans (hb6.mono HB5.out.size)
    have hpt2 := Points11 hbo6.ref HI.out.good hbo6.fresh (Kd.V_below HN.out hB6) (by omega) HI.out.pd
    have HPT2 := Aside0.mk hpt2
    have HV6 := Aside0.mk (show Rws w6 _ (.slice A6 (rows6.map ints).length c6) rows6 from ⟨A6, c6, rfl, hl6, hf6⟩)
    have HP6 := Aside0.mk hp6
    have HBO6 := Aside0.mk hbo6
    have HB6 := Aside0.mk hB6
    clear hpt2 hbo6 hB6 hp6 hb6 hl6 hf6
    go_wp2_with fail
    (with_reducible refine HPT2.out.mono ?_)
    rintro e w7 ⟨v7, code7, rows7, rfl, hv7, hp7, hb7⟩
    obtain ⟨rfl, rfl⟩ := pts_one hp7 HP6.out
    have hrw := rows12 (Kd.V_below HV6.out hb7) hv7 33 (fun x hx => by have := (pts_rows HI.out hp7).2 x hx; omega)
    rw [decide_eq_true rfl] at hrw
    obtain ⟨A7, c7, rfl, hl7, hf7⟩ := hv7
    rw [List.length_map] at hrw
    have HRW := Aside0.mk hrw
    have HBO7 := Aside0.mk (HBO6.out.below hb7)
    have HB7 := Aside0.mk (HB6.out.trans (hb7.mono HB6.out.size))
    clear hrw hl7 hf7 hp7 hb7 HBO6 HB6 HP6 HV6 HPT2
    go_wp2_with fail
    (with_reducible refine HRW.out.mono ?_)
    rintro e w8 ⟨rfl, n8, rfl⟩
    have hbo8 := HBO7.out.below (pw_below_drewN (Below.refl _ w7) n8)
    have hord := Order_calls hbo8.ring HI.out.good.toSmlG
    have HORD := Aside0.mk hord
    have HBO8 := Aside0.mk hbo8
    have HB8 := Aside0.mk (HB7.out.trans ((pw_below_drewN (Below.refl _ w7) n8).mono HB7.out.size))
    clear hord hbo8 HB7 HBO7 HRW
    go_wp2_with fail
    (with_reducible refine HORD.out.mono ?_)
    rintro e w9 ⟨v9, out9, rfl, hv9, hs9, hb9⟩
    have hbo9 := HBO8.out.below hb9
    have hord := Order15 hbo9.ref HI.out.good HI.out.rk
    have HORD2 := Aside0.mk hord
    have HBO9 := Aside0.mk hbo9
    have HB9 := Aside0.mk (HB8.out.trans (hb9.mono HB8.out.size))
    have HV9 := Aside0.mk hv9
    have HS9 := Aside0.mk hs9
    clear hord hbo9 hv9 hs9 hb9 HBO8 HB8 HORD
    go_wp2_with fail
    (with_reducible refine HORD2.out.mono ?_)
    rintro e w10 ⟨v10, out10, rfl, hv10, hs10, hb10⟩
    obtain rfl := ord_unique hs10 HS9.out
    have htx := texts13 (Kd.V_below HV9.out hb10) hv10
    rw [decide_eq_true rfl] at htx
    have HTX := Aside0.mk htx
    have HBO10 := Aside0.mk (HBO9.out.below hb10)
    have HB10 := Aside0.mk (HB9.out.trans (hb10.mono HB9.out.size))
    clear htx hv10 hs10 hb10 HBO9 HB9 HORD2
    go_wp2_with fail
    (with_reducible refine HTX.out.mono ?_)
    rintro e w11 ⟨rfl, n11, rfl⟩
    have hbo11 := HBO10.out.below (pw_below_drewN (Below.refl _ w10) n11)
    have hB11 : Below W.heap.size W (w10.drewN n11) := HB10.out.trans ((pw_below_drewN (Below.refl _ w10) n11).mono HB10.out.size)
    have hwho := Who_calls hbo11.ring HI.out.good.p HI.out.good.ps (Kd.V_below HP.out hB11)
    have HWHO := Aside0.mk hwho
    have HBO11 := Aside0.mk hbo11
    have HB11 := Aside0.mk hB11
    clear hwho hbo11 hB11 HBO10 HB10 HTX
    go_wp2_with fail
    (with_reducible refine HWHO.out.mono ?_)
    rintro e w12 ⟨rfl, hb12⟩
    have hbo12 := HBO11.out.below hb12
    have hB12 : Below W.heap.size W w12 := HB11.out.trans (hb12.mono HB11.out.size)
    have hwho := who17 hbo12.ref HI.out.good.p (fun p hp => (HI.out.good.ps p hp).2) (Kd.V_below HP.out hB12)
    have HWHO2 := Aside0.mk hwho
    have HB12 := Aside0.mk hB12
    clear hwho hbo12 hB12 hb12 HBO11 HB11 HWHO
    go_wp2_with fail
    (with_reducible refine HWHO2.out.mono ?_)
    rintro e w13 ⟨rfl, n13, rfl⟩
    have HB13 := Aside0.mk (HB12.out.trans ((pw_below_drewN (Below.refl _ w12) n13).mono HB12.out.size))
    go_wp2_with fail
    go_ret
    exact ⟨by simp, HB13.out⟩
end Go.Proofs.YtflioeiklcnncaaGreatDoor.Ri

set_option linter.unusedVariables false
set_option linter.unusedSimpArgs false
namespace Go.Proofs.YtflioeiklcnncaaGreatDoor.Ri
open Go.RowKit Go.Maps Go.Sort Go.Proofs.YtflioeiklcnncaaGreatDoorW.PrintWords Go.Proofs.YtflioeiklcnncaaGreatDoor.PRing
open Go.ChangeShapes Go.WideShapes Go.Deep

section
variable {H : Type} {enc : TypeId × Value → H} {P : Program} {w : World} {base : Nat} {spare : Nat → Bool} {held : Bool}
theorem open_slice_fields {t e : TypeId} {fs : Array Field} {fuel : Nat} {cs : List Value} {x : DataW H × List MemPlace} (ht : P.underlying t = some (.slice e)) (he : P.underlying e = some (.struct fs))
    (hone : oneCellFields P fs = true) (hC : P.cellsOf e = fs.size) (h : DataW.trod enc P w base spare held fuel t cs = some x) :
    (cs = [.slice none 0 0] ∧ x = (.nil, [])) ∨
    ∃ (a : Addr) (len cap m : Nat) (D : Nat → DataW H) (Pl : Nat → List MemPlace), cs = [.slice (some a) len cap] ∧ base ≤ a.block ∧ len ≤ cap ∧ cap ≤ maxLen ∧ m = (if spare a.block then cap else len) ∧
      x = (.slice ((List.range len).map D) ((List.range (m - len)).map fun j => D (len + j)), MemPlace.row a (m * fs.size) ++ (List.range m).flatMap Pl) ∧
      ∀ i, i < m → ∃ (ys : List (DataW H × List MemPlace)) (n : Nat), D i = .agg (ys.map (·.1)) ∧ Pl i = ys.flatMap (·.2) ∧ ys.length = fs.size ∧
        ∀ (j : Nat) (f : Field), fs[j]? = some f → ∃ (v : Value) (y : DataW H × List MemPlace), w.cell? (a.add (i * fs.size + j)) = some v ∧ ys[j]? = some y ∧ DataW.trod enc P w base spare held n f.type [v] = some y := by
  rcases open_slice ht h with h0 | ⟨a, len, cap, m, n, D, Pl, hcs, hb, hl, hm, hmm, hx, hi⟩
  · exact .inl h0
  · refine .inr ⟨a, len, cap, m, D, Pl, hcs, hb, hl, hm, hmm, by rw [hC] at hx; exact hx, fun i him => ?_⟩
    obtain ⟨cs', hc, ht'⟩ := hi i him
    rw [hC] at hc
    obtain ⟨ys, n', hn', hy, hlen, hyl, hf⟩ := DataW.trod_struct he ht'
    obtain ⟨_, hcl, hat⟩ := World.cells?_some hc
    simp only [Prod.mk.injEq] at hy
    refine ⟨ys, n', hy.1, hy.2, hyl, fun j f hj => ?_⟩
    obtain ⟨ho, hk⟩ := hone_of hone j f hj
    have hjl : j < fs.size := (Array.getElem?_eq_some_iff.1 hj).1
    have hcell := hat j hjl
    have hv : cs'[j]? = some (cs'[j]'(by omega)) := List.getElem?_eq_getElem (by omega)
    have h1 := hf j f hj
    rw [ho, hk] at h1
    have hone' : (cs'.drop j).take 1 = [cs'[j]'(by omega)] := by
      rw [List.drop_eq_getElem_cons (by omega)]
      rfl
    rw [hone'] at h1
    have hys : ys[j]? = some (ys[j]'(by omega)) := List.getElem?_eq_getElem (by omega)
    refine ⟨_, _, ?_, hys, h1.trans hys⟩
    rw [← Go.Deep.add_add, hcell, hv]
end
theorem cells5 : Tryz.prog.cellsOf 5 = 1 := by kernel_rfl
theorem cells9 : Tryz.prog.cellsOf 9 = 1 := by kernel_rfl
theorem cells57 : Tryz.prog.cellsOf 57 = 4 := by kernel_rfl
theorem byte_of {n : Int} (h : (Lit.int .u8 n).wf = true) : ∃ b : UInt8, (b.toNat : Int) = n := by
  simp only [Lit.wf, Bool.and_eq_true, decide_eq_true_eq] at h
  have h1 : (0 : Int) ≤ n := h.1
  have h2 : n ≤ 255 := h.2
  exact ⟨UInt8.ofNat n.toNat, by have : (UInt8.ofNat n.toNat).toNat = n.toNat % 256 := rfl
                                 rw [this]; omega⟩
theorem bytes_of : ∀ (zs : List Int), (∀ n ∈ zs, (Lit.int .u8 n).wf = true) → ∃ b : B, ints b = zs
  | [], _ => ⟨[], rfl⟩
  | n :: r, h => by
    obtain ⟨x, hx⟩ := byte_of (h n (by simp))
    obtain ⟨b, hb⟩ := bytes_of r (fun m hm => h m (by simp [hm]))
    exact ⟨x :: b, by simp only [ints, List.map_cons] at hb ⊢; rw [hx, hb]⟩
section
variable {H : Type} {enc : TypeId × Value → H} {w : World} {base : Nat} {spare : Nat → Bool} {held : Bool}
theorem open_bts {fuel : Nat} {v : Value} {y : DataW H × List MemPlace} (h : DataW.trod enc Tryz.prog w base spare held fuel 24 v.cells.toList = some y) (hv : ∃ A l c, v = .slice A l c) : ∃ b, Bts w (fun k => k < w.heap.size) v b := by
  obtain ⟨A, l, c, rfl⟩ := hv
  rcases open_ints Tryz.underlying24 Tryz.underlying5 cells5 h with ⟨hcs, _⟩ | ⟨a, len, cap, zs, hcs, _, hl, hm, hz, _, hcell, hwf⟩
  · simp [Value.cells] at hcs
    obtain ⟨rfl, rfl, rfl⟩ := hcs
    exact ⟨[], Kd.V_nil _ _ _ _ _⟩
  · simp [Value.cells] at hcs
    obtain ⟨rfl, rfl, rfl⟩ := hcs
    obtain ⟨b, hb⟩ := bytes_of (zs.take l) (fun n hn => hwf n (List.mem_of_mem_take hn))
    have hlz : l ≤ zs.length := by rw [hz]; split <;> omega
    have hbl : (ints b).length = l := by rw [hb, List.length_take]; omega
    refine ⟨b, some a, c, by rw [hbl], by rw [hbl]; exact hl, ?_⟩
    rw [hbl]
    refine Kd.C_F (Kd.heap_int .u8) (Kd.C_of_reads (d := (0 : Int)) ⟨hbl, by unfold maxLen at hm; omega, fun hn => ⟨a, rfl, fun j hj => ?_⟩⟩)
    rw [hcell j (by omega), hb]
    simp [List.getD_eq_getElem?_getD, List.getElem?_take, hj]
theorem open_strs {fuel : Nat} {v : Value} {y : DataW H × List MemPlace} (h : DataW.trod enc Tryz.prog w base spare held fuel 23 v.cells.toList = some y) (hv : ∃ A l c, v = .slice A l c) : ∃ b, Strs w (fun k => k < w.heap.size) v b ∧ ∀ x ∈ b, x.length ≤ 9223372036854775807 := by
  obtain ⟨A, l, c, rfl⟩ := hv
  rcases open_strings Tryz.underlying23 Tryz.underlying9 cells9 h with ⟨hcs, _⟩ | ⟨a, len, cap, zs, hcs, _, hl, hm, hz, _, hcell, hwf⟩
  · simp [Value.cells] at hcs
    obtain ⟨rfl, rfl, rfl⟩ := hcs
    exact ⟨[], Kd.V_nil _ _ _ _ _, by simp⟩
  · simp [Value.cells] at hcs
    obtain ⟨rfl, rfl, rfl⟩ := hcs
    have hb : ((zs.take l).map bz).map mkS = zs.take l := by rw [List.map_map]; simp [Function.comp_def, mkS_bz]
    have hlz : l ≤ zs.length := by rw [hz]; split <;> omega
    have hbl : (((zs.take l).map bz).map mkS).length = l := by rw [hb, List.length_take]; omega
    refine ⟨(zs.take l).map bz, ⟨some a, c, by rw [hbl], by rw [hbl]; exact hl, ?_⟩, fun x hx => ?_⟩
    · rw [hbl]
      refine Kd.C_F Kd.heap_string (Kd.C_of_reads (d := ByteArray.empty) ⟨hbl, by unfold maxLen at hm; omega, fun hn => ⟨a, rfl, fun j hj => ?_⟩⟩)
      rw [hcell j (by omega), hb]
      simp [List.getD_eq_getElem?_getD, List.getElem?_take, hj]
    · obtain ⟨s, hs, rfl⟩ := List.mem_map.1 hx
      have := hwf s (List.mem_of_mem_take hs)
      rw [bz_length]
      unfold maxLen at this
      exact this
theorem heap57 : Kd.Heap k57 := Kd.heap_iso _ (Kd.heap_pair (Kd.heap_int _) (Kd.heap_pair Kd.heap_string (Kd.heap_pair (Kd.heap_slice 5 (Kd.heap_int _)) (Kd.heap_slice 9 Kd.heap_string))))
theorem slice_of_trod {fuel t e : Nat} {v : Value} {y : DataW H × List MemPlace} (ht : Tryz.prog.underlying t = some (.slice e)) (h : DataW.trod enc Tryz.prog w base spare held fuel t [v] = some y) : ∃ A l c, v = .slice A l c := by
  rcases open_slice ht h with ⟨hcs, _⟩ | ⟨a, len, cap, m, n, D, Pl, hcs, _⟩
  · simp at hcs; exact ⟨_, _, _, hcs⟩
  · simp at hcs; exact ⟨_, _, _, hcs⟩
theorem cells_slice (A : Option Addr) (l c : Nat) : (Value.slice A l c).cells.toList = [.slice A l c] := rfl
theorem open_steps {fuel : Nat} {A : Option Addr} {l c : Nat} {y : DataW H × List MemPlace} (h : DataW.trod enc Tryz.prog w base spare held fuel 22 [.slice A l c] = some y) : ∃ ls : List Stp, ls.length = l ∧ l ≤ c ∧ Kd.F k57 w (fun k => k < w.heap.size) A (ls.map stp).length (ls.map stp) := by
  rcases open_slice_fields Tryz.underlying22 Tryz.underlying57 (by kernel_rfl) (by rw [cells57]; rfl) h with ⟨hcs, _⟩ | ⟨a, len, cap, m, D, Pl, hcs, _, hl, hm, hmm, _, hi⟩
  · simp at hcs
    obtain ⟨rfl, rfl, rfl⟩ := hcs
    exact ⟨[], rfl, Nat.le_refl _, Kd.F_nil _ _ _⟩
  · simp at hcs
    obtain ⟨rfl, rfl, rfl⟩ := hcs
    have hlm : l ≤ m := by rw [hmm]; split <;> omega
    have hone : ∀ i, i < l → ∃ x : Stp, ∃ cs, cs.length = 4 ∧ k57.K w (stp x) cs ∧ ∀ (k : Nat) (u : Value), cs[k]? = some u → w.cell? (a.add (i * 4 + k)) = some u := fun i hil => by
      obtain ⟨ys, n, _, _, _, hf⟩ := hi i (by omega)
      obtain ⟨v0, y0, c0, _, t0⟩ := hf 0 _ rfl
      obtain ⟨v1, y1, c1, _, t1⟩ := hf 1 _ rfl
      obtain ⟨v2, y2, c2, _, t2⟩ := hf 2 _ rfl
      obtain ⟨v3, y3, c3, _, t3⟩ := hf 3 _ rfl
      obtain ⟨n0, e0, _, _⟩ := DataW.trod_int Tryz.underlying3 t0
      obtain ⟨s1, e1, _, _⟩ := DataW.trod_string Tryz.underlying9 t1
      simp only [List.cons.injEq, and_true] at e0 e1
      subst e0; subst e1
      obtain ⟨A2, l2, d2, rfl⟩ := slice_of_trod Tryz.underlying24 t2
      obtain ⟨A3, l3, d3, rfl⟩ := slice_of_trod Tryz.underlying23 t3
      obtain ⟨b2, A2', d2', e2, h2, f2⟩ := open_bts (v := .slice A2 l2 d2) t2 ⟨_, _, _, rfl⟩
      obtain ⟨b3, ⟨A3', d3', e3, h3, f3⟩, _⟩ := open_strs (v := .slice A3 l3 d3) t3 ⟨_, _, _, rfl⟩
      injection e2 with ea eb ec
      subst ea; subst eb; subst ec
      injection e3 with ea eb ec
      subst ea; subst eb; subst ec
      refine ⟨(n0, bz s1, b2, b3), _, rfl, k57_mk w (stp (n0, bz s1, b2, b3)) (A2 := A2) (c2 := d2) h2 (Kd.F_now f2) (A3 := A3) (c3 := d3) h3 (Kd.F_now f3), fun k u hk => ?_⟩
      have e4 : ∀ q, (#[({ name := "Kind", type := 3, offset := 0, embedded := false, tag := "", pkgPath := "", byteOffset := 0 } : Field), { name := "Name", type := 9, offset := 1, embedded := false, tag := "", pkgPath := "", byteOffset := 8 }, { name := "Point", type := 24, offset := 2, embedded := false, tag := "", pkgPath := "", byteOffset := 24 }, { name := "Members", type := 23, offset := 3, embedded := false, tag := "", pkgPath := "", byteOffset := 48 }]).size = q → q = 4 := fun q h => h.symm
      match k, hk with
      | 0, hk => simp only [stp, List.getElem?_cons_zero, Option.some.injEq] at hk; subst hk; exact c0
      | 1, hk => simp only [stp, List.getElem?_cons_succ, List.getElem?_cons_zero, Option.some.injEq, mkS_bz] at hk; subst hk; exact c1
      | 2, hk => simp only [stp, List.getElem?_cons_succ, List.getElem?_cons_zero, Option.some.injEq] at hk; subst hk; exact c2
      | 3, hk => simp only [stp, List.getElem?_cons_succ, List.getElem?_cons_zero, Option.some.injEq] at hk; subst hk; exact c3
      | k + 4, hk => simp at hk
    have : ∃ f : Nat → Stp, ∀ i, i < l → ∃ cs, cs.length = 4 ∧ k57.K w (stp (f i)) cs ∧ ∀ (k : Nat) (u : Value), cs[k]? = some u → w.cell? (a.add (i * 4 + k)) = some u := by
      refine ⟨fun i => if h : i < l then Classical.choose (hone i h) else (0, [], [], []), fun i h => ?_⟩
      simp only [dif_pos h]
      exact Classical.choose_spec (hone i h)
    obtain ⟨f, hf⟩ := this
    have hlen : (((List.range l).map f).map stp).length = l := by simp
    refine ⟨(List.range l).map f, by simp, hl, ?_⟩
    rw [hlen]
    refine Kd.C_F heap57 ⟨hlen, by unfold maxLen at hm; omega, fun hn => ⟨a, rfl, fun j p hj => ?_⟩⟩
    obtain ⟨hjl, hp⟩ := List.getElem?_eq_some_iff.1 hj
    rw [hlen] at hjl
    obtain ⟨cs, h1, h2, h3⟩ := hf j hjl
    have : p = stp (f j) := by rw [← hp]; simp
    subst this
    exact ⟨cs, h1, h2, h3⟩
end
end Go.Proofs.YtflioeiklcnncaaGreatDoor.Ri
