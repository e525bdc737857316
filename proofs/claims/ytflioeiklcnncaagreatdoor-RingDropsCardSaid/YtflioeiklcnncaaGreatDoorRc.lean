/- Texts of the rings, together. -/
import Derived.Test.YtflioeiklcnncaaGreatDoorRb
import Derived.Laws.EntriesVeiled
set_option linter.unusedVariables false
set_option linter.unusedSimpArgs false
namespace Go.Proofs.YtflioeiklcnncaaGreatDoor.Ri
open Go.RowKit Go.Maps Go.Sort Go.Proofs.YtflioeiklcnncaaGreatDoorW.PrintWords Go.Proofs.YtflioeiklcnncaaGreatDoor.PRing

theorem sub_len : ∀ {l m : List B}, l.Nodup → (∀ x ∈ l, x ∈ m) → l.length ≤ m.length
  | [], _, _, _ => Nat.zero_le _
  | x :: l, m, hn, hs => by
    rw [List.nodup_cons] at hn
    have hx := hs x (by simp)
    have h1 : l.length ≤ (m.erase x).length := sub_len hn.2 (fun y hy => by
      refine (List.mem_erase_of_ne (fun e => hn.1 (by rw [← e]; exact hy))).2 (hs y (by simp [hy])))
    rw [List.length_erase_of_mem hx] at h1
    have : 0 < m.length := List.length_pos_of_mem hx
    simp only [List.length_cons]
    omega
theorem srt_nodup {V : Type} {l : List (B × V)} (h : Srt l) : (l.map (·.1)).Nodup := by
  unfold Srt at h
  have h2 : (l.map (·.1)).Pairwise (fun a b => bytesBefore a b = true) := by rw [List.pairwise_map]; exact h
  exact h2.imp (fun hab => bb_ne hab)
theorem keys_len {V : Type} {l : List (B × V)} {s : St} (h : Srt l) (hk : ∀ p ∈ l, ahas s.G p.1 = true) : l.length ≤ s.G.length := by
  have h1 := sub_len (srt_nodup h) (m := s.G.map (·.1)) (fun x hx => by
    obtain ⟨p, hp, rfl⟩ := List.mem_map.1 hx
    obtain ⟨q, hq, e⟩ := ahas_iff.1 (hk p hp)
    exact List.mem_map.2 ⟨q, hq, e⟩)
  simpa using h1
theorem alook_of_mem {l : List (B × Value)} (h : Srt l) {p : B × Value} (hp : p ∈ l) : alook l p.1 = some p.2 := by
  unfold alook
  cases hf : l.find? (fun q => q.1 == p.1) with
  | none =>
    rw [List.find?_eq_none] at hf
    exact absurd (by simp) (hf p hp)
  | some q =>
    have h1 := List.mem_of_find?_eq_some hf
    have h2 := List.find?_some hf
    simp only [beq_iff_eq] at h2
    have : q = p := by
      unfold Srt at h
      induction l with
      | nil => cases hp
      | cons a r ih =>
        rw [List.pairwise_cons] at h
        rcases List.mem_cons.1 hp with rfl | hp'
        · rcases List.mem_cons.1 h1 with rfl | h1'
          · rfl
          · exact absurd h2.symm (bb_ne (h.1 q h1'))
        · rcases List.mem_cons.1 h1 with rfl | h1'
          · exact absurd h2 (bb_ne (h.1 p hp'))
          · by_cases ha : a.1 = p.1
            · exact absurd ha (bb_ne (h.1 p hp'))
            · rw [List.find?_cons, show (a.1 == p.1) = false by simpa using ha] at hf
              exact ih h.2 hp' hf h1'
    rw [this]; rfl

/-! ### the two maps of waits -/
def upd (c : B → Option (List B)) (nm : B) (l : List B) : B → Option (List B) := fun x => if x = nm then some l else c x
def Many (w : World) (mM : Nat) (s : St) (c : B → Option (List B)) : Prop :=
  (∀ x, c x ≠ none → ahas s.G x = true) ∧ ∃ lm, MapAt w mM lm.length lm ∧ ∀ x, alook lm x = (c x).map fun l => .int .i64 ((l.filter (ahas s.G)).length : Nat)
theorem Many.turn {S : Nat → Prop} {w w' : World} {mM : Nat} {s : St} {c : B → Option (List B)} (h : Many w mM s c) (ht : Turn S w w') (hS : ¬ S mM) : Many w' mM s c := by
  obtain ⟨h0, lm, hm, hv⟩ := h
  exact ⟨h0, lm, ht.map hm hS, hv⟩
theorem Many.len {w : World} {mM : Nat} {s : St} {c : B → Option (List B)} (h0 : ∀ x, c x ≠ none → ahas s.G x = true) {lm : List (B × Value)} (hm : MapAt w mM lm.length lm) (hv : ∀ x, alook lm x = (c x).map fun l => .int .i64 ((l.filter (ahas s.G)).length : Nat)) : lm.length ≤ s.G.length :=
  keys_len hm.srt (fun p hp => h0 _ (fun e => by
    have h1 := alook_of_mem hm.srt hp
    rw [hv, e] at h1
    cases h1))
theorem Many.look {w : World} {mM : Nat} {s : St} {c : B → Option (List B)} (h : Many w mM s c) (x : ByteArray) (hx : x.size ≤ maxLen) {l : List B} (hc : c (bz x) = some l) :
    (Instr.lookup 63 (.map (some mM)) (.string x) false).run Tryz.prog w = .ok (.int .i64 ((l.filter (ahas s.G)).length : Nat)) w := by
  obtain ⟨h0, lm, hm, hv⟩ := h
  have := hm.look1 Tryz.underlying63 (z3 w) hx
  rw [show x.data.toList = bz x from rfl, hv, hc] at this
  exact this
theorem Many.store {w : World} {mM : Nat} {s : St} {c : B → Option (List B)} (h : Many w mM s c) (hG : s.G.length ≤ 1000) (x : ByteArray) (hx : x.size ≤ maxLen) (hg : ahas s.G (bz x) = true) (l : List B) :
    ∃ w', (Instr.mapUpdate 63 (.map (some mM)) (.string x) (.int .i64 ((l.filter (ahas s.G)).length : Nat))).run Tryz.prog w = .ok () w' ∧ Many w' mM s (upd c (bz x) l) ∧ w.mapTurned w' mM := by
  obtain ⟨h0, lm, hm, hv⟩ := h
  have hl := Many.len h0 hm hv
  obtain ⟨w', h1, h2, h3⟩ := hm.store Tryz.underlying63 (by unfold maxLen; omega) hx (.int .i64 ((l.filter (ahas s.G)).length : Nat))
  refine ⟨w', h1, ⟨fun y hy => ?_, _, h2.norm, fun y => ?_⟩, h3⟩
  · by_cases e : y = bz x
    · rw [e]; exact hg
    · unfold upd at hy; rw [if_neg e] at hy; exact h0 y hy
  · rw [alook_put, show x.data.toList = bz x from rfl]
    unfold upd
    by_cases e : y = bz x
    · rw [if_pos e, if_pos e]; rfl
    · rw [if_neg e, if_neg e]; exact hv y
theorem MapAt.blk {w : World} {b n : Nat} {l : List (B × Value)} (h : MapAt w b n l) : ∃ es clock, w.heap[b]? = some (.map es clock) := by
  obtain ⟨es, clock, h1, _⟩ := h
  exact ⟨es, clock, h1⟩
theorem own_map_ne {w : World} {b n : Nat} {l : List (B × Value)} (h : MapAt w b n l) {v : Value} {xs : List B} (hv : Own w v xs) : v.ownBlock ≠ some b := fun e => by
  obtain ⟨es, clock, h1⟩ := h.blk
  obtain ⟨cs, hc⟩ := hv.typed b e
  rw [h1] at hc
  cases hc

structure Beh (w : World) (mB lo : Nat) (s : St) (c : B → Option (List B)) (lb : List (B × Value)) (bl : B → List B) : Prop where
  map : MapAt w mB lb.length lb
  no : ∀ y, alook lb y = none → bl y = []
  so : ∀ y v, alook lb y = some v → ahas s.G y = true ∧ Own w v (bl y) ∧ ∀ k, v.ownBlock = some k → lo ≤ k
  disj : ∀ y z v v', y ≠ z → alook lb y = some v → alook lb z = some v' → ∀ k, v.ownBlock = some k → v'.ownBlock ≠ some k
  nd : ∀ y, (bl y).Nodup
  is : ∀ y x, x ∈ bl y ↔ ahas s.G y = true ∧ ∃ l, c x = some l ∧ y ∈ l
theorem Beh.turn {S : Nat → Prop} {w w' : World} {mB lo : Nat} {s : St} {c : B → Option (List B)} {lb : List (B × Value)} {bl : B → List B} (h : Beh w mB lo s c lb bl) (ht : Turn S w w') (hS : ¬ S mB) (hlo : ∀ k, S k → k < lo ∨ ∀ cs, w.heap[k]? ≠ some (.cells cs 9 (0, 0))) : Beh w' mB lo s c lb bl :=
  ⟨ht.map h.map hS, h.no, (fun y v hv => by
    obtain ⟨h1, h2, h3⟩ := h.so y v hv
    refine ⟨h1, h2.turn ht (fun k hk e => ?_), h3⟩
    rcases hlo k e with h4 | h4
    · have := h3 k hk; omega
    · obtain ⟨cs, hc⟩ := h2.typed k hk
      exact h4 cs hc), h.disj, h.nd, h.is⟩
theorem Beh.same {w : World} {mB lo : Nat} {s : St} {c c' : B → Option (List B)} {lb : List (B × Value)} {bl : B → List B} (h : Beh w mB lo s c lb bl) (hc : ∀ y x, ahas s.G y = true → ((∃ l, c x = some l ∧ y ∈ l) ↔ (∃ l, c' x = some l ∧ y ∈ l))) : Beh w mB lo s c' lb bl :=
  ⟨h.map, h.no, h.so, h.disj, h.nd, fun y x => by
    rw [h.is]
    constructor
    · rintro ⟨h1, h2⟩; exact ⟨h1, (hc y x h1).1 h2⟩
    · rintro ⟨h1, h2⟩; exact ⟨h1, (hc y x h1).2 h2⟩⟩
theorem Beh.look {w : World} {mB lo : Nat} {s : St} {c : B → Option (List B)} {lb : List (B × Value)} {bl : B → List B} (h : Beh w mB lo s c lb bl) (y : ByteArray) (hy : y.size ≤ maxLen) :
    ∃ v, (Instr.lookup 59 (.map (some mB)) (.string y) false).run Tryz.prog w = .ok v w ∧ Own w v (bl (bz y)) ∧ v = (alook lb (bz y)).getD (.slice none 0 0) := by
  have h1 := h.map.look1 Tryz.underlying59 (z23 w) hy
  rw [show y.data.toList = bz y from rfl] at h1
  refine ⟨_, h1, ?_, rfl⟩
  cases e : alook lb (bz y) with
  | none => rw [h.no _ e]; exact Own.nil w
  | some v => exact (h.so _ v e).2.1
theorem Beh.put {w w4 : World} {mB lo : Nat} {s : St} {c : B → Option (List B)} {lb : List (B × Value)} {bl : B → List B} (h : Beh w mB lo s c lb bl) (hG : s.G.length ≤ 1000) (y : ByteArray) (hy : y.size ≤ maxLen) (hyg : ahas s.G (bz y) = true) {nm : B} {v v1 : Value} (hv : v = (alook lb (bz y)).getD (.slice none 0 0))
    (hn : nm ∉ bl (bz y)) (ho : Own w4 v1 (bl (bz y) ++ [nm])) (hg : w.grownBy w4 v.ownBlock) (hat : v1.ownBlock = v.ownBlock ∨ ∃ k, v1.ownBlock = some k ∧ w.heap.size ≤ k) (hlo : lo ≤ w.heap.size)
    {l : List B} (hc : c nm = some l) :
    ∃ w5, (Instr.mapUpdate 59 (.map (some mB)) (.string y) v1).run Tryz.prog w4 = .ok () w5 ∧ w4.mapTurned w5 mB ∧ ∃ lb' bl', Beh w5 mB lo s (upd c nm (l ++ [bz y])) lb' bl' := by
  have hov : Own w v (bl (bz y)) := by
    rw [hv]
    cases e : alook lb (bz y) with
    | none => rw [h.no _ e]; exact Own.nil w
    | some v => exact (h.so _ v e).2.1
  have hT4 := turn_grown hg
  have hm4 : MapAt w4 mB lb.length lb := hT4.map h.map (own_map_ne h.map hov)
  have hlen : lb.length ≤ s.G.length := keys_len h.map.srt (fun p hp => (h.so _ _ (alook_of_mem h.map.srt hp)).1)
  obtain ⟨w5, h1, h2, h3⟩ := hm4.store Tryz.underlying59 (by unfold maxLen; omega) hy v1
  rw [show y.data.toList = bz y from rfl] at h2
  have hT5 := Turn.of_map h3
  have hown5 : Own w5 v1 (bl (bz y) ++ [nm]) := ho.turn hT5 (fun k hk e => own_map_ne hm4 ho (by rw [hk, e]))
  have hkeep : ∀ z u, z ≠ bz y → alook lb z = some u → ∀ k, u.ownBlock = some k → v1.ownBlock ≠ some k := by
    intro z u hz hu k hk e
    rcases hat with h4 | ⟨k', h4, h5⟩
    · rw [h4, hv] at e
      cases e2 : alook lb (bz y) with
      | none => rw [e2] at e; simp [Value.ownBlock] at e
      | some v' =>
        rw [e2] at e
        exact h.disj _ _ _ _ hz hu e2 k hk e
    · rw [h4] at e
      injection e with e
      have := (h.so z u hu).2.1.lt k hk
      omega
  refine ⟨w5, h1, h3, _, fun z => if z = bz y then bl (bz y) ++ [nm] else bl z, ⟨h2.norm, fun z hz => ?_, fun z u hz => ?_, fun z z' u u' hne hu hu' k hk => ?_, fun z => ?_, fun z x => ?_⟩⟩
  · rw [alook_put] at hz
    by_cases e : z = bz y
    · rw [if_pos e] at hz; cases hz
    · rw [if_neg e] at hz
      simp only [if_neg e]
      exact h.no z hz
  · rw [alook_put] at hz
    by_cases e : z = bz y
    · rw [if_pos e] at hz
      injection hz with hz
      subst hz
      simp only [if_pos e]
      refine ⟨by rw [e]; exact hyg, hown5, fun k hk => ?_⟩
      rcases hat with h4 | ⟨k', h4, h5⟩
      · rw [h4, hv] at hk
        cases e2 : alook lb (bz y) with
        | none => rw [e2] at hk; simp [Value.ownBlock] at hk
        | some v' => rw [e2] at hk; exact (h.so _ _ e2).2.2 k hk
      · rw [h4] at hk
        injection hk with hk
        omega
    · rw [if_neg e] at hz
      simp only [if_neg e]
      obtain ⟨a1, a2, a3⟩ := h.so z u hz
      refine ⟨a1, (a2.turn hT4 (fun k hk e2 => ?_)).turn hT5 (fun k hk e2 => ?_), a3⟩
      · rw [hv] at e2
        cases e3 : alook lb (bz y) with
        | none => rw [e3] at e2; simp [Value.ownBlock] at e2
        | some v' => rw [e3] at e2; exact h.disj _ _ _ _ e hz e3 k hk e2
      · exact own_map_ne h.map a2 (by rw [hk, e2])
  · rw [alook_put] at hu hu'
    by_cases e : z = bz y
    · rw [if_pos e] at hu
      injection hu with hu
      subst hu
      have e' : z' ≠ bz y := fun e2 => hne (e.trans e2.symm)
      rw [if_neg e'] at hu'
      exact fun e2 => hkeep z' u' e' hu' k e2 hk
    · rw [if_neg e] at hu
      by_cases e' : z' = bz y
      · rw [if_pos e'] at hu'
        injection hu' with hu'
        subst hu'
        exact hkeep z u e hu k hk
      · rw [if_neg e'] at hu'
        exact h.disj z z' u u' hne hu hu' k hk
  · by_cases e : z = bz y
    · simp only [if_pos e]
      rw [List.nodup_append]
      exact ⟨h.nd _, by simp, fun a ha b hb => by
        rw [List.mem_singleton.1 hb]
        exact fun e2 => hn (by rw [← e2]; exact ha)⟩
    · simp only [if_neg e]
      exact h.nd z
  · by_cases e : z = bz y
    · simp only [if_pos e]
      rw [List.mem_append, h.is, List.mem_singleton, e]
      unfold upd
      constructor
      · rintro (⟨b1, l', b2, b3⟩ | rfl)
        · refine ⟨b1, ?_⟩
          by_cases e2 : x = nm
          · subst e2
            rw [hc] at b2
            injection b2 with b2
            exact ⟨l ++ [bz y], by rw [if_pos rfl], by simp⟩
          · exact ⟨l', by rw [if_neg e2]; exact b2, b3⟩
        · exact ⟨hyg, l ++ [bz y], by rw [if_pos rfl], by simp⟩
      · rintro ⟨b1, l', b2, b3⟩
        by_cases e2 : x = nm
        · exact .inr e2
        · rw [if_neg e2] at b2
          exact .inl ⟨b1, l', b2, b3⟩
    · simp only [if_neg e]
      rw [h.is]
      unfold upd
      constructor
      · rintro ⟨b1, l', b2, b3⟩
        refine ⟨b1, ?_⟩
        by_cases e2 : x = nm
        · subst e2
          rw [hc] at b2
          injection b2 with b2
          exact ⟨l ++ [bz y], by rw [if_pos rfl], by rw [b2]; simp [b3]⟩
        · exact ⟨l', by rw [if_neg e2]; exact b2, b3⟩
      · rintro ⟨b1, l', b2, b3⟩
        refine ⟨b1, ?_⟩
        by_cases e2 : x = nm
        · rw [if_pos e2] at b2
          injection b2 with b2
          rw [← b2] at b3
          rcases List.mem_append.1 b3 with b3 | b3
          · exact ⟨l, by rw [e2]; exact hc, b3⟩
          · exact absurd (List.mem_singleton.1 b3) e
        · rw [if_neg e2] at b2
          exact ⟨l', b2, b3⟩
end Go.Proofs.YtflioeiklcnncaaGreatDoor.Ri

set_option linter.unusedVariables false
set_option linter.unusedSimpArgs false
namespace Go.Proofs.YtflioeiklcnncaaGreatDoor.Ri
open Go.RowKit Go.Maps Go.Sort Go.Proofs.YtflioeiklcnncaaGreatDoorW.PrintWords Go.Proofs.YtflioeiklcnncaaGreatDoor.PRing

structure SmlG (s : St) : Prop extends SmlP s where
  nod : ∀ p ∈ s.G, p.2.Nodup
def allC (s : St) : B → Option (List B) := fun x => if ahas s.G x = true then some (mem s x) else none
def WaitsPost (W : World) (s : St) (e : Ending) (w' : World) : Prop :=
  ∃ mM mB lb bl, e = .returned (.tuple #[.map (some mM), .map (some mB)]) ∧ W.heap.size ≤ mM ∧ W.heap.size ≤ mB ∧ mM ≠ mB ∧ Many w' mM s (allC s) ∧ Beh w' mB W.heap.size s (allC s) lb bl ∧ Below W.heap.size W w'
def doneC (s : St) (left : Lit → Bool) : B → Option (List B) := fun x => if ahas s.G x = true ∧ left (.string x) = false then some (mem s x) else none
theorem mem_len {s : St} (hS : SmlG s) (x : B) : ∀ m ∈ mem s x, m.length ≤ 1000 := by
  intro m hm
  by_cases h : ahas s.G x = true
  · obtain ⟨p, hp, _, e⟩ := mem_some h
    exact hS.mems p hp m (by rw [← e]; exact hm)
  · rw [mem_none (by simpa using h)] at hm; cases hm
theorem mem_nod {s : St} (hS : SmlG s) (x : B) : (mem s x).Nodup := by
  by_cases h : ahas s.G x = true
  · obtain ⟨p, hp, _, e⟩ := mem_some h
    rw [e]; exact hS.nod p hp
  · rw [mem_none (by simpa using h)]; exact List.nodup_nil
theorem own_not {w : World} {k : Nat} {v : Value} {xs : List B} (hv : Own w v xs) (h : ∀ cs, w.heap[k]? ≠ some (.cells cs 9 (0, 0))) : v.ownBlock ≠ some k := fun e => by
  obtain ⟨cs, hc⟩ := hv.typed k e
  exact h cs hc
theorem ranges_turn {S : Nat → Prop} {w w' : World} {b r n : Nat} {D : DataW Value} {left : Lit → Bool} {cnt : Nat} (h : w.ranges Tryz.prog 9 raw b r n D left cnt) (ht : Turn S w w') (hb : ¬ S b) (hr : ¬ S r) : w'.ranges Tryz.prog 9 raw b r n D left cnt := by
  have h1 := h.owns.lt
  have h2 := h.lt
  obtain ⟨es, clock, since, seen, c0, hb0, F, hs, hD, hr0, rest⟩ := h
  exact ⟨es, clock, since, seen, c0, (ht.block b h1 hb).trans hb0, F, hs, hD, (ht.block r h2 hr).trans hr0, rest⟩
theorem ranges_not {w : World} {b r n : Nat} {D : DataW Value} {left : Lit → Bool} {cnt : Nat} (h : w.ranges Tryz.prog 9 raw b r n D left cnt) : (∀ cs, w.heap[b]? ≠ some (.cells cs 9 (0, 0))) ∧ (∀ cs, w.heap[r]? ≠ some (.cells cs 9 (0, 0))) := by
  obtain ⟨es, clock, since, seen, c0, hb0, F, hs, hD, hr0, rest⟩ := h
  exact ⟨fun cs e => (by rw [hb0] at e; cases e), fun cs e => (by rw [hr0] at e; cases e)⟩
/-- All that the loops keep. -/
structure WI (W w : World) (bg n : Nat) (lg : List (B × Value)) (s : St) (left : Lit → Bool) (cnt : Nat) (c : B → Option (List B)) : Prop where
  many : Many w W.heap.size s c
  beh : ∃ lb bl, Beh w (W.heap.size + 1) W.heap.size s c lb bl
  rng : w.ranges Tryz.prog 9 raw bg (W.heap.size + 1 + 1) n (mapD lg) left cnt
  below : Below W.heap.size W w
theorem WI.bglt {W w : World} {bg n : Nat} {lg : List (B × Value)} {s : St} {left : Lit → Bool} {cnt : Nat} {c : B → Option (List B)} (h : WI W w bg n lg s left cnt c) : True := trivial
theorem upd_same {c : B → Option (List B)} {nm : B} {l : List B} (x : B) : upd c nm l x = if x = nm then some l else c x := rfl
theorem upd_upd (c : B → Option (List B)) (nm : B) (l l' : List B) : upd (upd c nm l) nm l' = upd c nm l' := by
  funext x
  unfold upd
  by_cases h : x = nm
  · simp [h]
  · simp [h]
theorem WI.begin {W w : World} {bg n : Nat} {lg : List (B × Value)} {s : St} {left : Lit → Bool} {cnt : Nat} {c : B → Option (List B)} (h : WI W w bg n lg s left cnt c) (hbg : bg < W.heap.size) (hG : s.G.length ≤ 1000) (x : ByteArray) (hx : x.size ≤ maxLen) (hg : ahas s.G (bz x) = true) (hc : c (bz x) = none) :
    ∃ w', (Instr.mapUpdate 63 (.map (some W.heap.size)) (.string x) (.int .i64 0)).run Tryz.prog w = .ok () w' ∧ WI W w' bg n lg s left cnt (upd c (bz x) []) := by
  obtain ⟨w', h1, h2, h3⟩ := h.many.store hG x hx hg []
  have hT := Turn.of_map h3
  obtain ⟨lb, bl, hB⟩ := h.beh
  obtain ⟨es, cl, _, _, hm, _⟩ := h3
  refine ⟨w', h1, h2, ⟨lb, bl, (hB.turn hT (by omega) (fun k e => .inr (fun cs e2 => ?_))).same (fun y z hy => ?_)⟩, ranges_turn h.rng hT (by omega) (by omega), ?_⟩
  · rw [show k = W.heap.size from e, hm] at e2; cases e2
  · rw [upd_same]
    by_cases e : z = bz x
    · rw [if_pos e, e, hc]; simp
    · rw [if_neg e]
  · exact h.below.trans (hT.below (fun k e => by rw [show k = W.heap.size from e]; exact Nat.le_refl _) h.below.size)
theorem WI.skip {W w : World} {bg n : Nat} {lg : List (B × Value)} {s : St} {left : Lit → Bool} {cnt : Nat} {c : B → Option (List B)} {nm y : B} {l : List B} (h : WI W w bg n lg s left cnt (upd c nm l)) (hy : ahas s.G y = false) : WI W w bg n lg s left cnt (upd c nm (l ++ [y])) := by
  obtain ⟨lb, bl, hB⟩ := h.beh
  refine ⟨?_, ⟨lb, bl, hB.same (fun y' z hy' => ?_)⟩, h.rng, h.below⟩
  · obtain ⟨h0, lm, hm, hv⟩ := h.many
    refine ⟨fun x hx => h0 x (fun e => hx ?_), lm, hm, fun x => ?_⟩
    · unfold upd at e ⊢
      by_cases h1 : x = nm
      · rw [if_pos h1] at e; cases e
      · rw [if_neg h1] at e ⊢; exact e
    · rw [hv]
      unfold upd
      by_cases h1 : x = nm
      · rw [if_pos h1, if_pos h1]
        simp [List.filter_append, hy]
      · rw [if_neg h1, if_neg h1]
  · unfold upd
    by_cases h1 : z = nm
    · rw [if_pos h1, if_pos h1]
      have : y' ≠ y := fun e => by rw [e, hy] at hy'; cases hy'
      simp [this]
    · rw [if_neg h1, if_neg h1]
/-- A member that is a group: first its count .. -/
theorem WI.bump {W w : World} {bg n : Nat} {lg : List (B × Value)} {s : St} {left : Lit → Bool} {cnt : Nat} {c : B → Option (List B)} {nm : ByteArray} {y : ByteArray} {l : List B} (h : WI W w bg n lg s left cnt (upd c (bz nm) l)) (hbg : bg < W.heap.size) (hG : s.G.length ≤ 1000) (hx : nm.size ≤ maxLen) (hys : y.size ≤ maxLen) (hy : ahas s.G (bz y) = true) (hyl : bz y ∉ l) (hl : l.length ≤ 1000) (hcn : c (bz nm) = none) :
    ∃ (k : Nat) (w2 : World) (v : Value) (xs : List B), k ≤ 1000 ∧ (Instr.lookup 63 (.map (some W.heap.size)) (.string nm) false).run Tryz.prog w = .ok (.int .i64 k) w ∧
      (Instr.mapUpdate 63 (.map (some W.heap.size)) (.string nm) (.int .i64 ((k : Int) + 1))).run Tryz.prog w = .ok () w2 ∧
      (Instr.lookup 59 (.map (some (W.heap.size + 1))) (.string y) false).run Tryz.prog w2 = .ok v w2 ∧ Own w2 v xs ∧ xs.length ≤ 1000 ∧
      ∀ w4 v1, Own w4 v1 (xs ++ [bz nm]) → w2.grownBy w4 v.ownBlock → (v1.ownBlock = v.ownBlock ∨ ∃ k, v1.ownBlock = some k ∧ w2.heap.size ≤ k) →
        ∃ w5, (Instr.mapUpdate 59 (.map (some (W.heap.size + 1))) (.string y) v1).run Tryz.prog w4 = .ok () w5 ∧ WI W w5 bg n lg s left cnt (upd c (bz nm) (l ++ [bz y])) := by
  have hcu : upd c (bz nm) l (bz nm) = some l := by unfold upd; rw [if_pos rfl]
  have hnmG : ahas s.G (bz nm) = true := h.many.1 _ (by rw [hcu]; simp)
  have hlk := h.many.look nm hx hcu
  obtain ⟨w2, h1, h2, h3⟩ := h.many.store hG nm hx hnmG (l ++ [bz y])
  have hlen : ((l ++ [bz y]).filter (ahas s.G)).length = (l.filter (ahas s.G)).length + 1 := by simp [List.filter_append, hy]
  rw [hlen] at h1
  have hT := Turn.of_map h3
  obtain ⟨lb, bl, hB⟩ := h.beh
  obtain ⟨es, cl, _, _, hm, _⟩ := h3
  have hB2 : Beh w2 (W.heap.size + 1) W.heap.size s (upd c (bz nm) l) lb bl := hB.turn hT (by omega) (fun k e => .inr (fun cs e2 => by rw [show k = W.heap.size from e, hm] at e2; cases e2))
  obtain ⟨v, hv1, hv2, hv3⟩ := hB2.look y hys
  have hkl : (l.filter (ahas s.G)).length ≤ 1000 := Nat.le_trans (List.length_filter_le _ _) hl
  have hxs : (bl (bz y)).length ≤ s.G.length := by
    have := sub_len (hB2.nd (bz y)) (m := s.G.map (·.1)) (fun x hx => by
      obtain ⟨_, l', hl', _⟩ := (hB2.is _ _).1 hx
      obtain ⟨q, hq, e⟩ := ahas_iff.1 (h.many.1 x (by rw [hl']; simp))
      exact List.mem_map.2 ⟨q, hq, e⟩)
    simpa using this
  have hnn : bz nm ∉ bl (bz y) := fun e => by
    obtain ⟨_, l', hl', hyl'⟩ := (hB2.is _ _).1 e
    rw [hcu] at hl'
    injection hl' with hl'
    rw [← hl'] at hyl'
    exact hyl hyl'
  refine ⟨_, w2, v, bl (bz y), hkl, hlk, h1, hv1, hv2, by omega, fun w4 v1 ho hg hat => ?_⟩
  have hb2 : Below W.heap.size W w2 := h.below.trans (hT.below (fun k e => by rw [show k = W.heap.size from e]; exact Nat.le_refl _) h.below.size)
  obtain ⟨w5, h5, h6, lb', bl', h7⟩ := hB2.put hG y hys hy hv3 hnn ho hg hat hb2.size hcu
  rw [upd_upd] at h2 h7
  have hT4 := turn_grown hg
  have hT5 := Turn.of_map h6
  have hr2 := ranges_turn h.rng hT (by omega) (by omega)
  have hrn := ranges_not hr2
  obtain ⟨h20, lm, hm2, hv20⟩ := h2
  have hm2' : Many w2 W.heap.size s (upd c (bz nm) (l ++ [bz y])) := ⟨h20, lm, hm2, hv20⟩
  have hr4 := ranges_turn hr2 hT4 (own_not hv2 hrn.1) (own_not hv2 hrn.2)
  refine ⟨w5, h5, (hm2'.turn hT4 (own_map_ne hm2 hv2)).turn hT5 (by omega), ⟨lb', bl', h7⟩, ranges_turn hr4 hT5 (by omega) (by omega), ?_⟩
  have hlov : ∀ k, v.ownBlock = some k → W.heap.size ≤ k := fun k hk => by
    rw [hv3] at hk
    cases e : alook lb (bz y) with
    | none => rw [e] at hk; simp [Value.ownBlock] at hk
    | some v' => rw [e] at hk; exact (hB2.so _ _ e).2.2 k hk
  have hb4 : Below W.heap.size W w4 := hb2.trans (hT4.below hlov hb2.size)
  exact hb4.trans (hT5.below (fun k e => by rw [show k = W.heap.size + 1 from e]; omega) hb4.size)
theorem wi_start {W w0 : World} {bg n : Nat} {lg : List (B × Value)} {s : St} {f : B → Value} (hlg : lg = s.G.map fun p => (p.1, f p.1)) {left : Lit → Bool} {cnt : Nat} (hleft : left = Maps.has (mapD lg))
    (hr : w0.ranges Tryz.prog 9 raw bg ((W.alloc (.map #[] 0)).alloc (.map #[] 0)).heap.size n (mapD lg) left cnt) (hg : ((W.alloc (.map #[] 0)).alloc (.map #[] 0)).grownBy w0 none) : WI W w0 bg n lg s left cnt (doneC s left) := by
  have e0 : ((W.alloc (.map #[] 0)).alloc (.map #[] 0)).heap.size = W.heap.size + 1 + 1 := al_size _ (al_size _ rfl)
  rw [e0] at hr
  have hd : doneC s left = fun _ => none := by
    funext x
    unfold doneC
    rw [if_neg]
    rintro ⟨h1, h2⟩
    rw [hleft, mapD_has, hlg, ahas_map, h1] at h2
    cases h2
  have hT := turn_grown hg
  have m0 : MapAt w0 W.heap.size 0 [] := hT.map (map_new (al_old _ (al_new _ rfl))) (by simp)
  have m1 : MapAt w0 (W.heap.size + 1) 0 [] := hT.map (map_new (al_new _ (al_size _ rfl))) (by simp)
  refine ⟨⟨fun x hx => ?_, [], m0, fun x => ?_⟩, ⟨[], fun _ => [], m1, fun y _ => rfl, fun y v h => ?_, fun y z v v' _ h => ?_, fun y => List.nodup_nil, fun y x => ?_⟩, hr, ?_⟩
  · rw [hd] at hx; exact absurd rfl hx
  · rw [hd]; rfl
  · cases h
  · cases h
  · rw [hd]; simp
  · exact (al_below _ (al_below _ (Below.refl _ _))).trans (hT.below (fun k e => by cases e) (by rw [e0]; omega))
theorem doneC_next {s : St} {left : Lit → Bool} {x : B} (hx : ahas s.G x = true) : upd (doneC s left) x (mem s x) = doneC s (fun z => left z && !z.sameKey (.string x)) := by
  funext y
  unfold upd doneC
  by_cases h : y = x
  · subst h
    rw [if_pos rfl, if_pos ⟨hx, by simp [same_str]⟩]
  · have : (y == x) = false := by simpa using h
    simp only [if_neg h, same_str, this, Bool.not_false, Bool.and_true]
theorem doneC_all {s : St} {left : Lit → Bool} (h : ∀ k, left k = false) : doneC s left = allC s := by
  funext x
  unfold doneC allC
  simp [h]
theorem WI.next {W w w1 : World} {bg n : Nat} {lg : List (B × Value)} {s : St} {left left' : Lit → Bool} {cnt cnt' : Nat} {c : B → Option (List B)} (h : WI W w bg n lg s left cnt c) (hbg : bg < W.heap.size) (hg : w.grownBy w1 (some (W.heap.size + 1 + 1))) (hr : w1.ranges Tryz.prog 9 raw bg (W.heap.size + 1 + 1) n (mapD lg) left' cnt') : WI W w1 bg n lg s left' cnt' c := by
  have hT := turn_grown hg
  have hrn := ranges_not h.rng
  obtain ⟨lb, bl, hB⟩ := h.beh
  refine ⟨h.many.turn hT (fun e => by injection e with e; omega), ⟨lb, bl, hB.turn hT (fun e => by injection e with e; omega) (fun k e => .inr (fun cs => ?_))⟩, hr, h.below.trans (hT.below (fun k e => by injection e with e; omega) h.below.size)⟩
  injection e with e
  rw [← e]
  exact hrn.2 cs
theorem mem_of_mem {s : St} {f : B → Value} (h : Srt (s.G.map fun p => (p.1, f p.1))) {p : B × List B} (hp : p ∈ s.G) : mem s p.1 = p.2 := by
  obtain ⟨q, hq, e1, e2⟩ := mem_some (ahas_iff.2 ⟨p, hp, rfl⟩)
  rw [e2, srt_inj h hq hp e1]
theorem take_snoc' {l : List B} {k : Nat} (h : k < l.length) : l.take (k + 1) = l.take k ++ [l[k]] := List.take_succ_eq_append_getElem h
theorem not_take {l : List B} (h : l.Nodup) {k : Nat} (hk : k < l.length) : l[k] ∉ l.take k := by
  intro hm
  obtain ⟨i, hi, e⟩ := List.mem_iff_getElem.1 hm
  rw [List.getElem_take] at e
  have h1 : i < k := by simp at hi; omega
  exact (List.pairwise_iff_getElem.1 h) i k (by omega) hk h1 e
set_option maxRecDepth 100000 in
set_option maxHeartbeats 4000000 in
theorem waits_calls {W : World} {ok : Nat → Prop} {r bp bg : Nat} {s : St} (h : RingAt W ok r bp bg s) (hS : SmlG s) :
    Calls Tryz.prog 38 #[.pointer (some ⟨r, 0, none⟩)] W (WaitsPost W s) := by
  obtain ⟨f, hgm, hgv⟩ := h.gm
  obtain ⟨lg, hlg⟩ : ∃ lg : List (B × Value), lg = s.G.map fun p => (p.1, f p.1) := ⟨_, rfl⟩
  rw [← hlg] at hgm
  have HR := Aside0.mk h
  have HLG := Aside0.mk hlg
  have HGM := Aside0.mk hgm
  have HGV := Aside0.mk hgv
  have hmm := @run_makeMap Tryz.prog
  have c1 := h.c1
  have hb0 : Below W.heap.size W ((W.alloc (.map #[] 0)).alloc (.map #[] 0)) := al_below _ (al_below _ (Below.refl _ _))
  have c1' : ((W.alloc (.map #[] 0)).alloc (.map #[] 0)).cell? ⟨r, 1, none⟩ = some (.map (some bg)) := (hb0.cell (p := ⟨r, 1, none⟩) (World.block_lt_of_cell? W _ h.c1)).trans c1
  have HGM0 := Aside0.mk (show MapAt ((W.alloc (.map #[] 0)).alloc (.map #[] 0)) bg s.G.length lg from hgm.below hb0)
  have HB0 := Aside0.mk hb0
  have HS := Aside0.mk hS
  have hbg := hgm.lt
  have HGL := Aside0.mk (show s.G.length ≤ 1000 from hS.g)
  clear h hlg hgm hgv hb0 hS
  go_enter Tryz.func38, Tryz.ntmps38
  go_wp2_with (at_range; refine stop_at ?_)
  unfold Stop
  refine wpList_range_own _ rfl _ 59 rfl 9 23 law9 Tryz.underlying59 raw bg s.G.length (mapD lg) rfl HGM0.out ?_
  intro w0 hrg0 hg0 hs0
  have hwi0 := wi_start HLG.out rfl hrg0 hg0
  have e0 : ((W.alloc (.map #[] 0)).alloc (.map #[] 0)).heap.size = W.heap.size + 1 + 1 := al_size _ (al_size _ rfl)
  have HWI0 := Aside0.mk hwi0
  clear hrg0 hg0 hs0 hwi0 c1'
  go_wp2_with fail
  go_frame
  simp only [e0]
  go_loopw [19] (fun _ wr => ∃ left cnt, WI W wr bg s.G.length lg s left cnt (doneC s left)) (fun _ wr => wr.rangeLeft bg (W.heap.size + 1 + 1))
  case atStart => exact ⟨_, _, HWI0.out⟩
  case round =>
    obtain ⟨left, cnt, hwi⟩ := hrel
    have HWI := Aside0.mk hwi
    clear hwi
    go_wp2_with (at_next; refine stop_at ?_)
    unfold Stop
    refine wpList_next_ranges _ rfl _ rfl 9 law9 raw Value.string (fun v : Value => v) (fun key kl hk => keyOf9_inv hk) (fun v y _ => ⟨v, rfl⟩) bg (W.heap.size + 1 + 1) s.G.length (mapD lg) left cnt rfl HWI.out.rng ?_ ?_
    · intro hc0 hl0
      have HL0 := Aside0.mk hl0
      clear hc0 hl0
      go_wp2_with fail
      go_ret2
      have hwi := HWI.out
      rw [doneC_all HL0.out] at hwi
      obtain ⟨h1, ⟨lb, bl, h2⟩, h3, h4⟩ := hwi
      exact ⟨_, _, lb, bl, rfl, Nat.le_refl _, Nat.le_succ _, by omega, h1, h2, h4⟩
    · intro x c kl y w1 cnt1 hkey hlk hv hat hrg1 hlt hg1 hs1 hen
      have hkl := keyOf9_lit hkey
      subst hkl
      have hy : y = (.held c, []) := by simpa [raw] using hv.symm
      subst hy
      have hat' : ∃ p ∈ s.G, p.1 = bz x ∧ c = f p.1 := by
        refine at_entry (fun zd => ?_)
        rw [← HLG.out]
        exact hat zd
      obtain ⟨p, hp, hpx, rfl⟩ := hat'
      have hsrt := HGM.out.srt
      rw [HLG.out] at hsrt
      have hmem : mem s (bz x) = p.2 := by rw [← hpx]; exact mem_of_mem hsrt hp
      have hxG : ahas s.G (bz x) = true := ahas_iff.2 ⟨p, hp, hpx⟩
      have hnod : p.2.Nodup := HS.out.nod p hp
      have hml : p.2.length ≤ 1000 := (HS.out.gs p hp).2
      have hms : ∀ m ∈ p.2, m.length ≤ 1000 := HS.out.mems p hp
      have hxl : x.size ≤ maxLen := by
        have h1 : (bz x).length ≤ 1000 := by rw [← hpx]; exact (HS.out.gs p hp).1
        have h2 : (bz x).length = x.size := bz_length x
        unfold maxLen; omega
      have hc : doneC s left (bz x) = none := by
        unfold doneC
        rw [if_neg]
        rintro ⟨_, h2⟩
        rw [hlk] at h2; cases h2
      have hwi1 := HWI.out.next hbg hg1 hrg1
      obtain ⟨w2, hrun2, hwi2⟩ := hwi1.begin hbg HGL.out x hxl hxG hc
      obtain ⟨A, cc, hfe, hcc, hF⟩ := HGV.out p hp
      rw [List.length_map] at hfe hcc hF
      rw [hfe] at hen ⊢
      have HWI2 := Aside0.mk hwi2
      have HF := Aside0.mk hF
      have HMEM := Aside0.mk hmem
      have HNOD := Aside0.mk hnod
      have HMS := Aside0.mk hms
      have HC := Aside0.mk hc
      have HXG := Aside0.mk hxG
      have HXL := Aside0.mk hxl
      have HLT := Aside0.mk hlt
      clear hkey hlk hv hat hrg1 hlt hg1 hs1 hsrt hmem hxG hnod hms hxl hc hwi1 hwi2 hF hp hpx hfe
      generalize hml' : p.2 = ml at *
      clear hml'
      go_wp2_with fail
      clear hen hrun2
      obtain ⟨wo, hwo⟩ : ∃ wo : World, wo = wr := ⟨_, rfl⟩
      subst hwo
      go_loopw [28] (fun i wi => ∃ k : Nat, k ≤ ml.length ∧ i = .int .i64 k ∧ WI W wi bg s.G.length lg s (fun z => left z && !z.sameKey (.string (bz x))) cnt1 (upd (doneC s left) (bz x) (ml.take k))) (fun i _ => ml.length - (intOf i).toNat)
      case atStart => exact ⟨0, Nat.zero_le _, rfl, HWI2.out⟩
      case round =>
        obtain ⟨k, hk, rfl, hwi⟩ := hrel
        have HWI3 := Aside0.mk hwi
        by_cases hlt : k < ml.length
        · as_aux_lemma =>
          obtain ⟨ad, rfl, hcell⟩ := str_at (l := ml) (Kd.F_below HF.out hwi.below) hlt
          have hyl : ml[k].length ≤ 1000 := HMS.out _ (List.getElem_mem hlt)
          have hys : (mkS ml[k]).size ≤ maxLen := by rw [mkS_size]; unfold maxLen; omega
          have hnk : ml[k] ∉ ml.take k := not_take HNOD.out hlt
          have hgm : MapAt wr bg s.G.length lg := HGM.out.below hwi.below
          have hlook := hgm.look Tryz.underlying59 (z23 wr) hys
          rw [show (mkS ml[k]).data.toList = ml[k] from bz_mkS _, HLG.out, ahas_map] at hlook
          have c1w := (HR.out.below hwi.below).c1
          generalize hyG : ahas s.G ml[k] = yG at hlook
          cases yG with
          | false =>
            have hw' := hwi.skip hyG
            have HW' := Aside0.mk hw'
            clear hwi hw' hgm hyG hyl hys hnk
            go_wp2_with fail
            refine ⟨⟨k + 1, by omega, by go_num, ?_⟩, by simp [intOf]; omega⟩
            rw [take_snoc' hlt]
            exact HW'.out
          | true =>
            obtain ⟨q, w3, v, xs, hq, e1, e2, e3, ho3, hxs, hnext⟩ := hwi.bump hbg HGL.out (y := mkS ml[k]) HXL.out hys (by rw [bz_mkS]; exact hyG) (by rw [bz_mkS]; exact hnk) (by simp; omega) HC.out
            rw [bz_mkS] at hnext
            have HO3 := Aside0.mk ho3
            have HNEXT := Aside0.mk hnext
            clear hwi hgm hyG hyl hys hnk ho3 hnext
            go_wp2_with (at_builtin; refine stop_at ?_)
            unfold Stop
            refine Kd.N_append Kd.string (w0 := w3) 0 rfl _ _ 23 9 _ 16 rfl Tryz.underlying23 info9 rfl (by decide) (by decide) _ (xs.map mkS) x [.string x] (fun k => v.ownBlock = some k ∨ w3.heap.size ≤ k) (fun _ => False) rfl rfl ?hp ?hok ?fresh ?HO ?HB ?hbase ?hl ?_
            case hp => exact fun _ _ => rfl
            case hok => exact fun b hb => hb.elim
            case fresh => exact fun b hb => .inr hb
            case HO => exact Kd.N_mono HO3.out (fun k hk => .inl hk)
            case HB => exact Below.refl _ _
            case hbase => exact Nat.zero_le _
            case hl => simp; omega
            intro v1 w4 hN4 hB4 hg4 hat4
            have hown : Own w4 v1 (xs ++ [bz x]) := by
              have : (xs ++ [bz x]).map mkS = xs.map mkS ++ [x] := by simp [mkS_bz]
              exact own_of (base := 0) (this ▸ hN4)
            obtain ⟨w5, hrun5, hwi5⟩ := HNEXT.out w4 v1 hown hg4 hat4
            have HW5 := Aside0.mk hwi5
            clear hN4 hB4 hg4 hat4 hown hwi5
            go_wp2_with fail
            refine ⟨⟨k + 1, by omega, by go_num, ?_⟩, by simp [intOf]; omega⟩
            rw [take_snoc' hlt]
            exact HW5.out
        · obtain rfl : k = ml.length := by omega
          as_aux_lemma =>
            rw [List.take_length] at hwi
            rw [← HMEM.out] at hwi
            rw [doneC_next HXG.out] at hwi
            have HW' := Aside0.mk hwi
            clear hwi
            go_wp2_with fail
            refine ⟨⟨_, _, HW'.out⟩, ?_⟩
            show wr.rangeLeft bg (W.heap.size + 1 + 1) < wo.rangeLeft bg (W.heap.size + 1 + 1)
            rw [HW'.out.rng.left_eq, HWI.out.rng.left_eq]
            exact HLT.out
end Go.Proofs.YtflioeiklcnncaaGreatDoor.Ri

set_option linter.unusedVariables false
set_option linter.unusedSimpArgs false
namespace Go.Proofs.YtflioeiklcnncaaGreatDoor.Ri
open Go.RowKit Go.Maps Go.Sort Go.Proofs.YtflioeiklcnncaaGreatDoorW.PrintWords Go.Proofs.YtflioeiklcnncaaGreatDoor.PRing

/-! ### the groups' order, plainly -/
def cnt (s : St) (out : List B) (x : B) : Nat := ((mem s x).filter fun y => ahas s.G y && !decide (y ∈ out)).length
def ready (s : St) (out : List B) (x : B) : Prop := ahas s.G x = true ∧ x ∉ out ∧ cnt s out x = 0
def OrdPre (s : St) (out : List B) : Prop := ∀ k, (h : k < out.length) → ready s (out.take k) out[k] ∧ ∀ y, ready s (out.take k) y → Le out[k] y
def OrdSpec (s : St) (out : List B) : Prop := OrdPre s out ∧ ∀ y, ¬ ready s out y
theorem cnt_zero {s : St} {out : List B} {x : B} : cnt s out x = 0 ↔ ∀ y ∈ mem s x, ahas s.G y = true → y ∈ out := by
  unfold cnt
  rw [List.length_eq_zero_iff, List.filter_eq_nil_iff]
  constructor
  · intro h y hy hg
    have := h y hy
    simpa [hg] using this
  · intro h y hy
    simp only [Bool.and_eq_true, Bool.not_eq_true', decide_eq_false_iff_not, not_and, Classical.not_not]
    exact h y hy
theorem cnt_snoc {s : St} {out : List B} {nm x : B} (hn : nm ∉ out) (hg : ahas s.G nm = true) (hd : (mem s x).Nodup) : cnt s out x = cnt s (out ++ [nm]) x + if nm ∈ mem s x then 1 else 0 := by
  unfold cnt
  have : ∀ l : List B, l.Nodup → (l.filter fun y => ahas s.G y && !decide (y ∈ out)).length = (l.filter fun y => ahas s.G y && !decide (y ∈ out ++ [nm])).length + if nm ∈ l then 1 else 0 := by
    intro l hl
    induction l with
    | nil => simp
    | cons a r ih =>
      rw [List.nodup_cons] at hl
      have ih := ih hl.2
      rw [List.filter_cons, List.filter_cons]
      by_cases ha : a = nm
      · subst ha
        have h1 : (ahas s.G a && !decide (a ∈ out)) = true := by simp [hg, hn]
        have h2 : (ahas s.G a && !decide (a ∈ out ++ [a])) = false := by simp
        rw [h1, h2, if_pos rfl, if_neg (by simp), if_pos (by simp)]
        rw [if_neg hl.1] at ih
        simp only [List.length_cons, ih, Nat.add_zero]
      · have h1 : (ahas s.G a && !decide (a ∈ out ++ [nm])) = (ahas s.G a && !decide (a ∈ out)) := by simp [ha]
        have h2 : (nm ∈ a :: r) = (nm ∈ r) := by
          apply propext
          constructor
          · intro h
            rcases List.mem_cons.1 h with h | h
            · exact absurd h.symm ha
            · exact h
          · intro h; exact List.mem_cons_of_mem _ h
        rw [h1]
        simp only [h2]
        split
        · simp only [List.length_cons]; omega
        · exact ih
  exact this _ hd
theorem ord_nil (s : St) : OrdPre s [] := fun k h => absurd h (by simp)
theorem ord_snoc {s : St} {out : List B} {nm : B} (h : OrdPre s out) (hr : ready s out nm) (hl : ∀ y, ready s out y → Le nm y) : OrdPre s (out ++ [nm]) := by
  intro k hk
  by_cases h1 : k < out.length
  · have e1 : (out ++ [nm]).take k = out.take k := by rw [List.take_append_of_le_length (by omega)]
    have e2 : (out ++ [nm])[k] = out[k] := by rw [List.getElem_append_left h1]
    rw [e1, e2]
    exact h k h1
  · have h2 : k = out.length := by simp at hk; omega
    subst h2
    have e1 : (out ++ [nm]).take out.length = out := by rw [List.take_append_of_le_length (Nat.le_refl _), List.take_length]
    have e2 : (out ++ [nm])[out.length] = nm := by simp
    rw [e1, e2]
    exact ⟨hr, hl⟩
theorem ord_in {s : St} {out : List B} (h : OrdPre s out) {x : B} (hx : x ∈ out) : ahas s.G x = true ∧ cnt s out x = 0 := by
  obtain ⟨k, hk, rfl⟩ := List.mem_iff_getElem.1 hx
  obtain ⟨⟨h1, _, h3⟩, _⟩ := h k hk
  refine ⟨h1, ?_⟩
  rw [cnt_zero] at h3 ⊢
  exact fun y hy hg => List.mem_of_mem_take (h3 y hy hg)
theorem ord_nodup {s : St} {out : List B} (h : OrdPre s out) : out.Nodup := by
  rw [List.Nodup, List.pairwise_iff_getElem]
  intro i j hi hj hij e
  have := (h j hj).1.2.1
  apply this
  rw [List.mem_iff_getElem]
  exact ⟨i, by simp; omega, by rw [List.getElem_take]; exact e⟩
theorem ord_len {s : St} {out : List B} (h : OrdPre s out) : out.length ≤ s.G.length := by
  have := sub_len (ord_nodup h) (m := s.G.map (·.1)) (fun x hx => by
    obtain ⟨q, hq, e⟩ := ahas_iff.1 (ord_in h hx).1
    exact List.mem_map.2 ⟨q, hq, e⟩)
  simpa using this
theorem Le.antisymm {a b : B} (h : Le a b) (k : Le b a) : a = b := by
  rcases h.eq_or with h1 | h1
  · exact h1
  · unfold Le at k; rw [k] at h1; cases h1
/-- The order is one alone. -/
theorem ord_unique {s : St} {o1 o2 : List B} (h1 : OrdSpec s o1) (h2 : OrdSpec s o2) : o1 = o2 := by
  have hk : ∀ k, k ≤ o1.length → k ≤ o2.length → o1.take k = o2.take k := by
    intro k
    induction k with
    | zero => intro _ _; simp
    | succ k ih =>
      intro a b
      have e := ih (by omega) (by omega)
      rw [List.take_succ_eq_append_getElem (by omega), List.take_succ_eq_append_getElem (by omega), e]
      obtain ⟨r1, l1⟩ := h1.1 k (by omega)
      obtain ⟨r2, l2⟩ := h2.1 k (by omega)
      have : o1[k] = o2[k] := Le.antisymm (l1 _ (by rw [e]; exact r2)) (l2 _ (by rw [← e]; exact r1))
      rw [this]
  rcases Nat.lt_trichotomy o1.length o2.length with h | h | h
  · have e := hk o1.length (Nat.le_refl _) (by omega)
    rw [List.take_length] at e
    have r := (h2.1 o1.length h).1
    rw [← e] at r
    exact absurd r (h1.2 _)
  · have e := hk o1.length (Nat.le_refl _) (by omega)
    rwa [List.take_length, h, List.take_length] at e
  · have e := hk o2.length (by omega) (Nat.le_refl _)
    rw [List.take_length] at e
    have r := (h1.1 o2.length h).1
    rw [e] at r
    exact absurd r (h2.2 _)

/-! ### memory -/
def Cnts (w : World) (mM : Nat) (s : St) (g : B → Nat) : Prop := ∃ lm, MapAt w mM lm.length lm ∧ lm.length ≤ s.G.length ∧ ∀ x, alook lm x = if ahas s.G x = true then some (.int .i64 (g x)) else none
theorem Cnts.turn {S : Nat → Prop} {w w' : World} {mM : Nat} {s : St} {g : B → Nat} (h : Cnts w mM s g) (ht : Turn S w w') (hS : ¬ S mM) : Cnts w' mM s g := by
  obtain ⟨lm, h1, h2⟩ := h
  exact ⟨lm, ht.map h1 hS, h2⟩
theorem Many.cnts {w : World} {mM : Nat} {s : St} (h : Many w mM s (allC s)) : Cnts w mM s (cnt s []) := by
  obtain ⟨h0, lm, hm, hv⟩ := h
  refine ⟨lm, hm, Many.len h0 hm hv, fun x => ?_⟩
  rw [hv]
  unfold allC
  by_cases hx : ahas s.G x = true
  · rw [if_pos hx, if_pos hx]
    simp [cnt]
  · rw [if_neg hx, if_neg hx]; rfl
theorem Cnts.look {w : World} {mM : Nat} {s : St} {g : B → Nat} (h : Cnts w mM s g) (x : ByteArray) (hx : x.size ≤ maxLen) (hg : ahas s.G (bz x) = true) :
    (Instr.lookup 63 (.map (some mM)) (.string x) false).run Tryz.prog w = .ok (.int .i64 (g (bz x))) w := by
  obtain ⟨lm, hm, _, hv⟩ := h
  have := hm.look1 Tryz.underlying63 (z3 w) hx
  rw [show x.data.toList = bz x from rfl, hv, if_pos hg] at this
  exact this
theorem Cnts.store {w : World} {mM : Nat} {s : St} {g : B → Nat} (h : Cnts w mM s g) (hG : s.G.length ≤ 1000) (x : ByteArray) (hx : x.size ≤ maxLen) (hg : ahas s.G (bz x) = true) (n : Nat) :
    ∃ w', (Instr.mapUpdate 63 (.map (some mM)) (.string x) (.int .i64 n)).run Tryz.prog w = .ok () w' ∧ Cnts w' mM s (fun y => if y = bz x then n else g y) ∧ w.mapTurned w' mM := by
  obtain ⟨lm, hm, hl, hv⟩ := h
  obtain ⟨w', h1, h2, h3⟩ := hm.store Tryz.underlying63 (by unfold maxLen; omega) hx (.int .i64 n)
  rw [show x.data.toList = bz x from rfl] at h2
  have hv' : ∀ y, alook (aput lm (bz x) (.int .i64 n)) y = if ahas s.G y = true then some (.int .i64 ((if y = bz x then n else g y : Nat))) else none := fun y => by
    rw [alook_put]
    by_cases e : y = bz x
    · rw [if_pos e, e, if_pos hg, if_pos rfl]
    · rw [if_neg e, if_neg e]; exact hv y
  refine ⟨w', h1, ⟨_, h2.norm, keys_len h2.srt (fun p hp => ?_), hv'⟩, h3⟩
  have h4 := alook_of_mem h2.srt hp
  rw [hv'] at h4
  by_cases e : ahas s.G p.1 = true
  · exact e
  · rw [if_neg e] at h4; cases h4
/-- Who waits for whom, read. -/
def Waits (w : World) (mB mM K : Nat) (s : St) (bl : B → List B) : Prop := (∃ lb, MapAt w mB lb.length lb ∧ ∀ y, Strs w (fun k => k < K ∧ k ≠ mM) ((alook lb y).getD (.slice none 0 0)) (bl y)) ∧ (∀ y, (bl y).Nodup) ∧ ∀ y x, x ∈ bl y ↔ ahas s.G y = true ∧ ahas s.G x = true ∧ y ∈ mem s x
theorem Beh.waits {w : World} {mB mM lo : Nat} {s : St} {lb : List (B × Value)} {bl : B → List B} (h : Beh w mB lo s (allC s) lb bl) (hM : Many w mM s (allC s)) : Waits w mB mM w.heap.size s bl := by
  refine ⟨⟨lb, h.map, fun y => ?_⟩, h.nd, fun y x => ?_⟩
  · cases e : alook lb y with
    | none => rw [h.no _ e]; exact Kd.V_nil _ _ _ _ _
    | some v =>
      have ho := (h.so _ _ e).2.1
      obtain ⟨_, lm, hm, _⟩ := hM
      exact Kd.V_mono ho.V (fun k hk => ⟨ho.lt k hk, fun e2 => own_map_ne hm ho (by rw [hk, e2])⟩)
  · rw [h.is]
    unfold allC
    constructor
    · rintro ⟨h1, l, h2, h3⟩
      by_cases hx : ahas s.G x = true
      · rw [if_pos hx] at h2
        injection h2 with h2
        exact ⟨h1, hx, by rw [h2]; exact h3⟩
      · rw [if_neg hx] at h2; cases h2
    · rintro ⟨h1, h2, h3⟩
      exact ⟨h1, _, by rw [if_pos h2], h3⟩
theorem Waits.turn {S : Nat → Prop} {w w' : World} {mB mM K : Nat} {s : St} {bl : B → List B} (h : Waits w mB mM K s bl) (ht : Turn S w w') (hB : ¬ S mB) (hS : ∀ k, S k → K ≤ k ∨ k = mM) : Waits w' mB mM K s bl := by
  obtain ⟨⟨lb, h1, h2⟩, h3⟩ := h
  refine ⟨⟨lb, ht.map h1 hB, fun y => ht.V (h2 y) (fun k hk e => ?_)⟩, h3⟩
  rcases hS k e with h4 | h4
  · omega
  · exact hk.2 h4
theorem Waits.look {w : World} {mB mM K : Nat} {s : St} {bl : B → List B} (h : Waits w mB mM K s bl) (y : ByteArray) (hy : y.size ≤ maxLen) :
    ∃ v, (Instr.lookup 59 (.map (some mB)) (.string y) false).run Tryz.prog w = .ok v w ∧ Strs w (fun k => k < K ∧ k ≠ mM) v (bl (bz y)) := by
  obtain ⟨⟨lb, h1, h2⟩, _⟩ := h
  have h3 := h1.look1 Tryz.underlying59 (z23 w) hy
  rw [show y.data.toList = bz y from rfl] at h3
  exact ⟨_, h3, h2 _⟩
end Go.Proofs.YtflioeiklcnncaaGreatDoor.Ri

set_option linter.unusedVariables false
set_option linter.unusedSimpArgs false
namespace Go.Proofs.YtflioeiklcnncaaGreatDoor.Ri
open Go.RowKit Go.Maps Go.Sort Go.Proofs.YtflioeiklcnncaaGreatDoorW.PrintWords Go.Proofs.YtflioeiklcnncaaGreatDoor.PRing

theorem own_empty {w : World} {g : Nat} (h : w.heap[g]? = some (.cells #[] 9 (0, 0))) : Own w (.slice (some ⟨g, 0, none⟩) 0 0) [] :=
  own_of (base := 0) (ok := fun _ => True) (l := []) (Kd.R_N ⟨fun _ _ => trivial, [], ⟨rfl, .inr ⟨g, 0, #[], rfl, Nat.zero_le _, h, Nat.le_refl _, Nat.zero_le _, rfl, rfl⟩⟩, ⟨rfl, fun j p hj => by simp at hj⟩⟩)
theorem at_look {l : List (B × Value)} {k : B} {c : Value} (h : ∀ zd, (mapD l).atKey (.string k) zd = .held c) : alook l k = some c := by
  have h1 := h (.held (.int .i64 0))
  have h2 := h (.held (.int .i64 1))
  rw [mapD_at] at h1 h2
  cases e : alook l k with
  | some v =>
    rw [e] at h1
    simp only [Option.getD_some, DataW.held.injEq] at h1
    rw [h1]
  | none =>
    rw [e] at h1 h2
    simp only [Option.getD_none, DataW.held.injEq] at h1 h2
    rw [← h1] at h2
    simp at h2
structure Fix (W : World) (K mM mB b : Nat) : Prop where
  nK : W.heap.size ≤ K
  nM : W.heap.size ≤ mM
  mK : mM < K
  bK : mB < K
  ne : mM ≠ mB
  hK : K ≤ b
structure OI (W wr : World) (K mM mB b : Nat) (s : St) (g : B → Nat) (bl : B → List B) (vo vh : Value) (out hl : List B) : Prop where
  cnts : Cnts wr mM s g
  wait : Waits wr mB mM K s bl
  heap : HeapAt wr b vh hl
  ish : IsHeap hl hl.length
  outs : Own wr vo out
  vok : ∀ k, vo.ownBlock = some k → K ≤ k ∧ vh.ownBlock ≠ some k
  vhk : ∀ k, vh.ownBlock = some k → K ≤ k
  below : Below W.heap.size W wr
theorem HeapAt.turn {S : Nat → Prop} {W W' : World} {b : Nat} {v : Value} {l : List B} (h : HeapAt W b v l) (ht : Turn S W W') (hb : ¬ S b) (hv : ∀ k, v.ownBlock = some k → ¬ S k) : HeapAt W' b v l :=
  ⟨by rw [ht.block b (Array.getElem?_eq_some_iff.1 h.blk).1 hb]; exact h.blk, h.own.turn ht hv⟩
theorem own_heap_ne {w : World} {b : Nat} {v vh : Value} {xs hl : List B} (hv : Own w v xs) (hh : HeapAt w b vh hl) : v.ownBlock ≠ some b := own_not hv (fun cs e => by rw [hh.blk] at e; simp at e)
theorem OI.push {W wr w' : World} {K mM mB b : Nat} {s : St} {g : B → Nat} {bl : B → List B} {vo vh v' : Value} {out hl l' : List B} (h : OI W wr K mM mB b s g bl vo vh out hl) (F : Fix W K mM mB b)
    (hv : HeapAt w' b v' l') (hh : IsHeap l' l'.length) (ht : Turn (fun k => k = b ∨ vh.ownBlock = some k) wr w') (hb : v'.ownBlock = vh.ownBlock ∨ ∃ k, v'.ownBlock = some k ∧ wr.heap.size ≤ k) : OI W w' K mM mB b s g bl vo v' out l' := by
  have F1 := F.nK
  have F2 := F.nM
  have F3 := F.mK
  have F4 := F.bK
  have F5 := F.hK
  have hbl : b < wr.heap.size := (Array.getElem?_eq_some_iff.1 h.heap.blk).1
  have hS : ∀ k, (k = b ∨ vh.ownBlock = some k) → K ≤ k := fun k hk => by
    rcases hk with rfl | hk
    · exact F.hK
    · exact h.vhk k hk
  have hn : ∀ k, k < K → ¬ (k = b ∨ vh.ownBlock = some k) := fun k hk e => by have := hS k e; omega
  refine ⟨h.cnts.turn ht (hn _ F.mK), h.wait.turn ht (hn _ F.bK) (fun k hk => .inl (hS k hk)), hv, hh, h.outs.turn ht (fun k hk e => ?_), fun k hk => ⟨(h.vok k hk).1, fun e => ?_⟩, fun k hk => ?_, h.below.trans (ht.below (fun k hk => by have := hS k hk; omega) h.below.size)⟩
  · rcases e with e | e
    · exact own_heap_ne h.outs h.heap (by rw [hk, e])
    · exact (h.vok k hk).2 e
  · rcases hb with h1 | ⟨k', h1, h2⟩
    · rw [h1] at e; exact (h.vok k hk).2 e
    · rw [h1] at e
      injection e with e
      have := h.outs.lt k hk
      omega
  · rcases hb with h1 | ⟨k', h1, h2⟩
    · rw [h1] at hk; exact h.vhk k hk
    · rw [h1] at hk
      injection hk with hk
      omega
theorem OI.take {W wr w4 : World} {K mM mB b : Nat} {s : St} {g : B → Nat} {bl : B → List B} {vo vh v1 : Value} {out hl l1 : List B} (h : OI W wr K mM mB b s g bl vo vh out hl) (F : Fix W K mM mB b)
    (ho : Own w4 v1 l1) (hg : wr.grownBy w4 vo.ownBlock) (hat : v1.ownBlock = vo.ownBlock ∨ ∃ k, v1.ownBlock = some k ∧ wr.heap.size ≤ k) : OI W w4 K mM mB b s g bl v1 vh l1 hl := by
  have ht := turn_grown hg
  have F1 := F.nK
  have F2 := F.nM
  have F3 := F.mK
  have F4 := F.bK
  have F5 := F.hK
  have hbl : b < wr.heap.size := (Array.getElem?_eq_some_iff.1 h.heap.blk).1
  have hn : ∀ k, k < K → ¬ (vo.ownBlock = some k) := fun k hk e => by have := (h.vok k e).1; omega
  refine ⟨h.cnts.turn ht (hn _ F.mK), h.wait.turn ht (hn _ F.bK) (fun k hk => .inl (h.vok k hk).1), h.heap.turn ht (own_heap_ne h.outs h.heap) (fun k hk e => (h.vok k e).2 hk), h.ish, ho, fun k hk => ?_, h.vhk, h.below.trans (ht.below (fun k hk => by have := (h.vok k hk).1; omega) h.below.size)⟩
  rcases hat with h1 | ⟨k', h1, h2⟩
  · rw [h1] at hk; exact h.vok k hk
  · rw [h1] at hk
    injection hk with hk
    subst hk
    exact ⟨by omega, fun e => by have := h.heap.own.lt _ e; omega⟩
theorem OI.dec {W wr w' : World} {K mM mB b : Nat} {s : St} {g g' : B → Nat} {bl : B → List B} {vo vh : Value} {out hl : List B} (h : OI W wr K mM mB b s g bl vo vh out hl) (F : Fix W K mM mB b)
    (hc : Cnts w' mM s g') (ht : wr.mapTurned w' mM) : OI W w' K mM mB b s g' bl vo vh out hl := by
  have hT := Turn.of_map ht
  have F1 := F.nK
  have F2 := F.nM
  have F3 := F.mK
  have F4 := F.bK
  have F5 := F.hK
  have F6 := F.ne
  refine ⟨hc, h.wait.turn hT (by omega) (fun k hk => .inr hk), h.heap.turn hT (by omega) (fun k hk e => by have := h.vhk k hk; omega), h.ish, h.outs.turn hT (fun k hk e => by have := (h.vok k hk).1; omega), h.vok, h.vhk, h.below.trans (hT.below (fun k hk => by omega) h.below.size)⟩
/-- Draws and new blocks. -/
theorem OI.same {W wr w' : World} {K mM mB b : Nat} {s : St} {g g' : B → Nat} {bl : B → List B} {vo vh : Value} {out hl : List B} (h : OI W wr K mM mB b s g bl vo vh out hl) (F : Fix W K mM mB b) (ht : Below wr.heap.size wr w') : OI W w' K mM mB b s g bl vo vh out hl := by
  have hT : Turn (fun _ => False) wr w' := Turn.of_below ht
  exact ⟨h.cnts.turn hT (fun e => e), h.wait.turn hT (fun e => e) (fun k hk => hk.elim), h.heap.turn hT (fun e => e) (fun k hk e => e), h.ish, h.outs.turn hT (fun k hk e => e), h.vok, h.vhk, h.below.trans (hT.below (fun k hk => hk.elim) h.below.size)⟩
theorem OI.congr {W wr : World} {K mM mB b : Nat} {s : St} {g g' : B → Nat} {bl : B → List B} {vo vh : Value} {out hl : List B} (h : OI W wr K mM mB b s g bl vo vh out hl) (hg : ∀ x, ahas s.G x = true → g x = g' x) : OI W wr K mM mB b s g' bl vo vh out hl := by
  refine ⟨?_, h.wait, h.heap, h.ish, h.outs, h.vok, h.vhk, h.below⟩
  obtain ⟨lm, h1, h2, h3⟩ := h.cnts
  refine ⟨lm, h1, h2, fun x => ?_⟩
  rw [h3]
  by_cases hx : ahas s.G x = true
  · rw [if_pos hx, if_pos hx, hg x hx]
  · rw [if_neg hx, if_neg hx]
theorem oi_start {W w1 : World} {mM mB : Nat} {s : St} {bl : B → List B} (hC : Cnts w1 mM s (cnt s [])) (hWt : Waits w1 mB mM w1.heap.size s bl) (hb : Below W.heap.size W w1) :
    OI W ((w1.alloc (.cells #[] 9)).alloc (.cells #[.slice (some ⟨w1.heap.size, 0, none⟩) 0 0] 76)) w1.heap.size mM mB (w1.heap.size + 1) s (cnt s []) bl (.slice none 0 0) (.slice (some ⟨w1.heap.size, 0, none⟩) 0 0) [] [] := by
  have h2 : Below w1.heap.size w1 ((w1.alloc (.cells #[] 9)).alloc (.cells #[.slice (some ⟨w1.heap.size, 0, none⟩) 0 0] 76)) := al_below _ (al_below _ (Below.refl _ _))
  have hT : Turn (fun _ => False) _ _ := Turn.of_below h2
  refine ⟨hC.turn hT (fun e => e), hWt.turn hT (fun e => e) (fun k hk => hk.elim), ⟨al_new _ (al_size _ rfl), own_empty (al_old _ (al_new _ rfl))⟩, fun i h0 h1 => by simp at h1, Own.nil _, fun k hk => by simp [Value.ownBlock] at hk, fun k hk => ?_, hb.trans (hT.below (fun k hk => hk.elim) hb.size)⟩
  simp only [Value.ownBlock, Option.some.injEq] at hk
  omega
end Go.Proofs.YtflioeiklcnncaaGreatDoor.Ri

set_option linter.unusedVariables false
set_option linter.unusedSimpArgs false
namespace Go.Proofs.YtflioeiklcnncaaGreatDoor.Ri
open Go.RowKit Go.Maps Go.Sort Go.Proofs.YtflioeiklcnncaaGreatDoorW.PrintWords Go.Proofs.YtflioeiklcnncaaGreatDoor.PRing

def OrderPost (W : World) (s : St) (e : Ending) (w' : World) : Prop :=
  ∃ v out, e = .returned v ∧ Strs w' (fun k => W.heap.size ≤ k) v out ∧ OrdSpec s out ∧ Below W.heap.size W w'
theorem OI.away {S : Nat → Prop} {W wr w' : World} {K mM mB b : Nat} {s : St} {g : B → Nat} {bl : B → List B} {vo vh : Value} {out hl : List B} (h : OI W wr K mM mB b s g bl vo vh out hl) (F : Fix W K mM mB b) (hT : Turn S wr w')
    (hS : ∀ k, S k → K ≤ k ∧ k ≠ b ∧ ∀ cs, wr.heap[k]? ≠ some (.cells cs 9 (0, 0))) : OI W w' K mM mB b s g bl vo vh out hl := by
  have F1 := F.nK
  have F3 := F.mK
  have F4 := F.bK
  exact ⟨h.cnts.turn hT (fun e => by have := (hS _ e).1; omega), h.wait.turn hT (fun e => by have := (hS _ e).1; omega) (fun k hk => .inl (hS k hk).1), h.heap.turn hT (fun e => (hS _ e).2.1 rfl) (fun k hk e => own_not h.heap.own (hS k e).2.2 hk), h.ish,
    h.outs.turn hT (fun k hk e => own_not h.outs (hS k e).2.2 hk), h.vok, h.vhk, h.below.trans (hT.below (fun k hk => by have := (hS k hk).1; omega) h.below.size)⟩
def lenOf : Value → Nat
  | .slice _ n _ => n
  | _ => 0
theorem heads_len {s : St} {hl : List B} (hn : hl.Nodup) (hg : ∀ x ∈ hl, ahas s.G x = true) : hl.length ≤ s.G.length := by
  have := sub_len hn (m := s.G.map (·.1)) (fun x hx => by
    obtain ⟨q, hq, e⟩ := ahas_iff.1 (hg x hx)
    exact List.mem_map.2 ⟨q, hq, e⟩)
  simpa using this
theorem keyS {s : St} (hS : SmlG s) {x : B} (h : ahas s.G x = true) : x.length ≤ 1000 := by
  obtain ⟨p, hp, e⟩ := ahas_iff.1 h
  rw [← e]; exact (hS.gs p hp).1
theorem c_end {s : St} (hS : SmlG s) {out blx : List B} {x : B} (hx : x ∉ out) (hg : ahas s.G x = true) (hbl : ∀ y, y ∈ blx ↔ ahas s.G x = true ∧ ahas s.G y = true ∧ x ∈ mem s y) (y : B) (hy : ahas s.G y = true) :
    cnt s out y - (if y ∈ blx then 1 else 0) = cnt s (out ++ [x]) y := by
  rw [cnt_snoc hx hg (mem_nod hS y)]
  by_cases h : x ∈ mem s y
  · rw [if_pos h, if_pos ((hbl y).2 ⟨hg, hy, h⟩)]; omega
  · rw [if_neg h, if_neg (fun e => h ((hbl y).1 e).2.2)]; omega
theorem c_step {s : St} (hS : SmlG s) {out blx : List B} {x y : B} (hx : x ∉ out) (hbl : ∀ y, y ∈ blx ↔ ahas s.G x = true ∧ ahas s.G y = true ∧ x ∈ mem s y) (hy : y ∈ blx) : cnt s out y = cnt s (out ++ [x]) y + 1 := by
  obtain ⟨h1, h2, h3⟩ := (hbl y).1 hy
  rw [cnt_snoc hx h1 (mem_nod hS y), if_pos h3]
theorem r_end {s : St} (hS : SmlG s) {out blx : List B} {x : B} (ho : OrdPre s out) (hr : ready s out x) (hbl : ∀ y, y ∈ blx ↔ ahas s.G x = true ∧ ahas s.G y = true ∧ x ∈ mem s y) (y : B) :
    ((ready s out y ∧ y ≠ x) ∨ (y ∈ blx ∧ cnt s (out ++ [x]) y = 0)) ↔ ready s (out ++ [x]) y := by
  obtain ⟨r1, r2, r3⟩ := hr
  have hle : cnt s out y = cnt s (out ++ [x]) y + if x ∈ mem s y then 1 else 0 := cnt_snoc r2 r1 (mem_nod hS y)
  constructor
  · rintro (⟨⟨a1, a2, a3⟩, a4⟩ | ⟨a1, a2⟩)
    · exact ⟨a1, by simp [a2, a4], by omega⟩
    · obtain ⟨b1, b2, b3⟩ := (hbl y).1 a1
      rw [if_pos b3] at hle
      refine ⟨b2, fun e => ?_, a2⟩
      rcases List.mem_append.1 e with e | e
      · have := (ord_in ho e).2; omega
      · rw [List.mem_singleton.1 e] at hle; omega
  · rintro ⟨a1, a2, a3⟩
    have a4 : y ∉ out := fun e => a2 (by simp [e])
    have a5 : y ≠ x := fun e => a2 (by simp [e])
    by_cases h : x ∈ mem s y
    · exact .inr ⟨(hbl y).2 ⟨r1, a1, h⟩, a3⟩
    · rw [if_neg h] at hle
      exact .inl ⟨⟨a1, a4, by omega⟩, a5⟩
set_option maxRecDepth 100000 in
set_option maxHeartbeats 4000000 in
theorem Order_calls {W : World} {ok : Nat → Prop} {r bp bg : Nat} {s : St} (h : RingAt W ok r bp bg s) (hS : SmlG s) :
    Calls Tryz.prog 14 #[.pointer (some ⟨r, 0, none⟩)] W (OrderPost W s) := by
  have HW := Aside0.mk (waits_calls h hS)
  have HS := Aside0.mk hS
  clear h
  go_enter Tryz.func14, Tryz.ntmps14
  go_wp2_with fail
  refine HW.out.mono ?_
  rintro e w1 ⟨mM, mB, lb, bl, rfl, hnM, hnB, hMB, hmany, hbeh, hb1⟩
  have hC := hmany.cnts
  have hWt := hbeh.waits hmany
  have hoi := oi_start hC hWt hb1
  have hfix : Fix W w1.heap.size mM mB (w1.heap.size + 1) := ⟨hb1.size, hnM, by obtain ⟨lm, hm, _⟩ := hC; exact hm.lt, hbeh.map.lt, hMB, by omega⟩
  obtain ⟨lm, hm, hml, hmv⟩ := hoi.cnts
  have HM := Aside0.mk hm
  have HMV := Aside0.mk hmv
  have HOI := Aside0.mk hoi
  have HF := Aside0.mk hfix
  clear hmany hbeh hC hWt hb1 HW hoi hfix hm hmv hnM hnB hMB
  go_wp2_with (at_range; refine stop_at ?_)
  unfold Stop
  refine wpList_range_own _ rfl _ 63 rfl 9 3 law9 Tryz.underlying63 raw mM lm.length (mapD lm) rfl HM.out ?_
  intro w2 hrg0 hg0 hs0
  have e0 : ((w1.alloc (.cells #[] 9)).alloc (.cells #[.slice (some ⟨w1.heap.size, 0, none⟩) 0 0] 76)).heap.size = w1.heap.size + 1 + 1 := al_size _ (al_size _ rfl)
  rw [e0] at hrg0
  obtain ⟨K, hK⟩ : ∃ K, K = w1.heap.size := ⟨_, rfl⟩
  rw [← hK] at HOI HF hrg0 hg0 HM e0
  simp only [e0, ← hK]
  have hoi2 := HOI.out.same (g' := cnt s []) HF.out (Turn.below (turn_grown hg0) (fun k e => by cases e) (Nat.le_refl _))
  have HOI2 := Aside0.mk hoi2
  have HRG0 := Aside0.mk hrg0
  clear hrg0 hg0 hs0 hoi2 e0 HOI HM hK
  go_wp2_with fail
  go_frame
  go_loopw [22] (fun _ wr => ∃ left cn vh hl, wr.ranges Tryz.prog 9 raw mM (K + 1 + 1) lm.length (mapD lm) left cn ∧ OI W wr K mM mB (K + 1) s (cnt s []) bl (.slice none 0 0) vh [] hl ∧ hl.Nodup ∧ ∀ x, x ∈ hl ↔ ahas s.G x = true ∧ left (.string x) = false ∧ cnt s [] x = 0) (fun _ wr => wr.rangeLeft mM (K + 1 + 1))
  case atStart =>
    refine ⟨_, _, _, [], HRG0.out, HOI2.out, List.nodup_nil, fun x => ⟨fun e => by simp at e, fun e => ?_⟩⟩
    obtain ⟨e1, e2, _⟩ := e
    rw [mapD_has] at e2
    have h3 := HMV.out x
    rw [if_pos e1] at h3
    unfold ahas at e2
    unfold alook at h3
    rw [List.any_eq_false] at e2
    cases hf : lm.find? (fun p => p.1 == x) with
    | none => rw [hf] at h3; cases h3
    | some p => exact absurd (List.find?_some hf) (by simpa using e2 p (List.mem_of_find?_eq_some hf))
  case round =>
    obtain ⟨left, cn, vh, hl, hrg, hoi, hnd, hmm⟩ := hrel
    have HRG := Aside0.mk hrg
    have HO := Aside0.mk hoi
    have HND := Aside0.mk hnd
    have HMM := Aside0.mk hmm
    clear hrg hoi hnd hmm
    go_wp2_with (at_next; refine stop_at ?_)
    unfold Stop
    refine wpList_next_ranges _ rfl _ rfl 9 law9 raw Value.string (fun v : Value => v) (fun key kl hk => keyOf9_inv hk) (fun v y _ => ⟨v, rfl⟩) mM (K + 1 + 1) lm.length (mapD lm) left cn rfl HRG.out ?_ ?_
    · intro hc0 hl0
      have HL0 := Aside0.mk hl0
      clear hc0 hl0
      obtain ⟨wo, hwo⟩ : ∃ wo : World, wo = wr := ⟨_, rfl⟩
      subst hwo
      have HMM2 := Aside0.mk (show ∀ x, x ∈ hl ↔ ready s [] x from fun x => by
        rw [HMM.out]
        unfold ready
        constructor
        · rintro ⟨a, _, b⟩; exact ⟨a, by simp, b⟩
        · rintro ⟨a, _, b⟩; exact ⟨a, HL0.out _, b⟩)
      clear HMM HL0 HRG
      go_wp2_with fail
      go_loopw [8] (fun u wr => ∃ Ao co out vh hl, u = .slice Ao (List.length out) co ∧ OI W wr K mM mB (K + 1) s (cnt s out) bl (.slice Ao out.length co) vh out hl ∧ hl.Nodup ∧ (∀ x, x ∈ hl ↔ ready s out x) ∧ OrdPre s out) (fun u _ => s.G.length - lenOf u)
      case atStart => exact ⟨none, 0, [], vh, hl, rfl, HO.out, HND.out, HMM2.out, ord_nil s⟩
      case round =>
        clear HO HND HMM2
        obtain ⟨Ao, co, out, vh', hl', rfl, hoi, hnd, hmm, hop⟩ := hrel
        obtain ⟨Ah, ch, rfl⟩ := hoi.heap.own.slice
        have hbc := hoi.heap.cell.1
        have hlen : hl'.length ≤ s.G.length := heads_len hnd (fun y hy => ((hmm y).1 hy).1)
        have hG := HS.out.g
        have HOI3 := Aside0.mk hoi
        have HND := Aside0.mk hnd
        have HMM := Aside0.mk hmm
        have HOP := Aside0.mk hop
        have hl1 : Calls Tryz.prog 40 #[.slice Ah hl'.length ch] wr fun e w' => e = .returned (.int .i64 (hl'.length : Nat)) ∧ w' = wr := Len_calls
        by_cases h0 : hl'.length = 0
        · clear hoi hnd hmm hop
          as_aux_lemma =>
            rw [h0] at hl1
            rw [h0] at hbc
            have HL1 := Aside0.mk hl1
            clear hl1
            go_wp2_with fail
            refine HL1.out.mono ?_
            rintro e w3 ⟨rfl, rfl⟩
            go_wp2_with fail
            go_ret
            have hnil : hl' = [] := List.length_eq_zero_iff.1 h0
            refine ⟨_, out, rfl, Kd.V_mono HOI3.out.outs.V (fun k hk => ?_), ⟨HOP.out, fun y hy => ?_⟩, HOI3.out.below⟩
            · have := (HOI3.out.vok k hk).1
              have := HF.out.nK
              omega
            · have := (HMM.out y).2 hy
              rw [hnil] at this
              simp at this
        · have hpop := pop_calls hoi.heap hoi.ish (by omega) (by omega)
          have HPOP := Aside0.mk hpop
          have HL1 := Aside0.mk hl1
          clear hl1 hpop hoi hnd hmm hop
          go_wp2_with fail
          refine HL1.out.mono ?_
          rintro e w3 ⟨rfl, rfl⟩
          go_wp2_with fail
          refine HPOP.out.mono ?_
          rintro e w5 ⟨x, v5, l5, rfl, hv5, hp5, hle5, hh5, ht5, hb5⟩
          have hxr : ready s out x := (HMM.out x).1 (hp5.mem_iff.1 (by simp))
          have hoi5 := HOI3.out.push HF.out hv5 hh5 ht5 (.inl hb5)
          have hta := ta9 w5 (mkS x)
          have HOI5 := Aside0.mk hoi5
          have HXR := Aside0.mk hxr
          have HP5 := Aside0.mk hp5
          have HLE5 := Aside0.mk hle5
          have hol : out.length ≤ s.G.length := ord_len HOP.out
          clear hbc HL1 HPOP hv5 hp5 hle5 hh5 ht5 hb5 hxr hoi5
          go_wp2_with (at_builtin; refine stop_at ?_)
          unfold Stop
          refine Kd.N_append Kd.string (w0 := w5) 0 rfl _ _ 23 9 _ 16 rfl Tryz.underlying23 info9 rfl (by decide) (by decide) _ (out.map mkS) (mkS x) [.string (mkS x)] (fun k => (Value.slice Ao out.length co).ownBlock = some k ∨ w5.heap.size ≤ k) (fun _ => False) rfl rfl ?hp ?hok ?fresh ?HO ?HB ?hbase ?hl ?_
          case hp => exact fun _ _ => rfl
          case hok => exact fun b hb => hb.elim
          case fresh => exact fun b hb => .inr hb
          case HO => exact Kd.N_mono HOI5.out.outs (fun k hk => .inl hk)
          case HB => exact Below.refl _ _
          case hbase => exact Nat.zero_le _
          case hl => simp; omega
          intro v6 w6 hN6 hB6 hg6 hat6
          have hown : Own w6 v6 (out ++ [x]) := by
            have : (out ++ [x]).map mkS = out.map mkS ++ [mkS x] := by simp
            exact own_of (base := 0) (this ▸ hN6)
          have hoi6 := HOI5.out.take HF.out hown hg6 hat6
          obtain ⟨A6, c6, e6⟩ := hown.slice
          rw [List.length_append, List.length_singleton] at e6
          subst e6
          have hxG := HXR.out.1
          have hxl := keyS HS.out hxG
          have hxs : (mkS x).size ≤ maxLen := by rw [mkS_size]; unfold maxLen; omega
          obtain ⟨vb, hlk6, hvb⟩ := hoi6.wait.look (mkS x) hxs
          rw [bz_mkS] at hvb
          have hblx : ∀ y, y ∈ bl x ↔ ahas s.G x = true ∧ ahas s.G y = true ∧ x ∈ mem s y := fun y => hoi6.wait.2.2 x y
          have hbnd := hoi6.wait.2.1 x
          have hbll : (bl x).length ≤ s.G.length := heads_len hbnd (fun y hy => ((hblx y).1 hy).2.1)
          obtain ⟨Ab, cb, rfl, hcb, hFb⟩ := hvb
          rw [List.length_map] at hcb hFb hlk6
          have HOI6 := Aside0.mk hoi6
          have HBLX := Aside0.mk hblx
          have HBND := Aside0.mk hbnd
          have HFB := Aside0.mk hFb
          have HXL := Aside0.mk hxl
          clear hN6 hB6 hg6 hat6 hown hoi6 hxG hxl hxs hblx hbnd hFb hta HOI5
          go_wp2_with fail
          go_loopw [54] (fun i wr => ∃ k v7 l7, i = .int .i64 (k : Nat) ∧ k ≤ (bl x).length ∧ OI W wr K mM mB (K + 1) s (fun y => cnt s out y - (if y ∈ (bl x).take k then 1 else 0)) bl (.slice A6 (out.length + 1) c6) v7 (out ++ [x]) l7 ∧ l7.Nodup ∧ (∀ y, y ∈ l7 ↔ (ready s out y ∧ y ≠ x) ∨ (y ∈ (bl x).take k ∧ cnt s (out ++ [x]) y = 0)) ∧ Turn (fun q => q = mM ∨ K ≤ q) w6 wr) (fun i _ => (bl x).length - (intOf i).toNat)
          case atStart =>
            have hpn := (HP5.out.nodup_iff).2 HND.out
            rw [List.nodup_cons] at hpn
            refine ⟨0, v5, l5, rfl, Nat.zero_le _, HOI6.out.congr (fun y hy => by simp), hpn.2, fun y => ?_, Turn.refl _ _⟩
            have hmem : y ∈ hl' ↔ y = x ∨ y ∈ l5 := by rw [← HP5.out.mem_iff, List.mem_cons]
            rw [List.take_zero]
            constructor
            · intro hy
              exact .inl ⟨(HMM.out y).1 (hmem.2 (.inr hy)), fun e => hpn.1 (by rw [← e]; exact hy)⟩
            · rintro (⟨a1, a2⟩ | ⟨a1, _⟩)
              · rcases hmem.1 ((HMM.out y).2 a1) with e | e
                · exact absurd e a2
                · exact e
              · simp at a1
          case round =>
            obtain ⟨k, v7, l7, rfl, hk, hoi, hnd7, hmm7, hT6⟩ := hrel
            have HT6 := Aside0.mk hT6
            have HOI7 := Aside0.mk hoi
            have HND7 := Aside0.mk hnd7
            have HMM7 := Aside0.mk hmm7
            by_cases hlt : k < (bl x).length
            · as_aux_lemma =>
                have hlo6 : ∀ q, q < K ∧ q ≠ mM → q < w6.heap.size → wr.heap[q]? = w6.heap[q]? := fun q hq hq2 => hT6.block q hq2 (by rintro (e | e) <;> omega)
                obtain ⟨ad, rfl, hcell⟩ := str_at (l := bl x) (Kd.F_step HFB.out (W1 := wr) (fun q hq hq2 => hlo6 q hq hq2)) hlt
                obtain ⟨y, hy⟩ : ∃ y, y = (bl x)[k] := ⟨_, rfl⟩
                have hyb : y ∈ bl x := by rw [hy]; exact List.getElem_mem hlt
                have hyk : y ∉ (bl x).take k := by rw [hy]; exact not_take HBND.out hlt
                have hyG : ahas s.G y = true := ((HBLX.out y).1 hyb).2.1
                have hyl := keyS HS.out hyG
                have hys : (mkS y).size ≤ maxLen := by rw [mkS_size]; unfold maxLen; omega
                have hcy : cnt s out y = cnt s (out ++ [x]) y + 1 := c_step HS.out HXR.out.2.1 HBLX.out hyb
                rw [← hy] at hcell
                have htk : (bl x).take (k + 1) = (bl x).take k ++ [y] := by rw [take_snoc' hlt, hy]
                have hcl : cnt s (out ++ [x]) y ≤ 1000 := by
                  have h1 : (mem s y).length ≤ 1000 := by
                    obtain ⟨p, hp, _, e⟩ := mem_some hyG
                    rw [e]; exact (HS.out.gs p hp).2
                  exact Nat.le_trans (List.length_filter_le _ _) h1
                have hlk := hoi.cnts.look (mkS y) hys (by rw [bz_mkS]; exact hyG)
                simp only [bz_mkS] at hlk
                rw [if_neg hyk, hcy, Nat.sub_zero] at hlk
                obtain ⟨w7, hst, hc7, ht7⟩ := hoi.cnts.store HS.out.g (mkS y) hys (by rw [bz_mkS]; exact hyG) (cnt s (out ++ [x]) y)
                have hlk7 := hc7.look (mkS y) hys (by rw [bz_mkS]; exact hyG)
                simp only [bz_mkS, if_true] at hlk7
                have hoi7 := (hoi.dec HF.out hc7 ht7).congr (g' := fun z => cnt s out z - (if z ∈ (bl x).take (k + 1) then 1 else 0)) (fun z hz => by
                  simp only [bz_mkS]
                  by_cases e : z = y
                  · subst e
                    rw [if_pos rfl, htk, if_pos (by simp), hcy]; omega
                  · rw [if_neg e]
                    have : (z ∈ (bl x).take (k + 1)) ↔ z ∈ (bl x).take k := by rw [htk]; simp [e]
                    simp only [this])
                have hnotr : ¬ ready s out y := fun e => by have := e.2.2; omega
                have hyl7 : y ∉ l7 := fun e => by
                  rcases (hmm7 y).1 e with e | e
                  · exact hnotr e.1
                  · exact hyk e.1
                have hpush := push_calls hoi7.heap hoi7.ish y (by
                  have := heads_len hnd7 (fun z hz => by
                    rcases (hmm7 z).1 hz with e | e
                    · exact e.1.1
                    · exact ((HBLX.out z).1 (List.mem_of_mem_take e.1)).2.1)
                  have := HS.out.g
                  omega)
                generalize hc0 : cnt s (out ++ [x]) y = c0 at hlk hst hlk7 hcl
                have HC0 := Aside0.mk hc0
                have HOI9 := Aside0.mk hoi7
                have HPU := Aside0.mk hpush
                have HYL7 := Aside0.mk hyl7
                have HTK := Aside0.mk htk
                have HST := Aside0.mk hst
                push_cast at hlk
                have hT7 : Turn (fun q => q = mM ∨ K ≤ q) w6 w7 := hT6.trans ((Turn.of_map ht7).mono (fun q hq => .inl hq))
                have HT7 := Aside0.mk hT7
                clear hyb hyk hyG hyl hys hcy htk hc7 ht7 hoi hoi7 hnotr hyl7 hpush hc0 hnd7 hmm7 hy hlo6 hT7 hT6
                by_cases hz : c0 = 0
                · subst hz
                  push_cast at hst hlk7
                  simp only [Int.natCast_zero, Int.zero_add, Int.cast_ofNat_Int] at hlk hst hlk7
                  go_wp2_with fail
                  refine HPU.out.mono ?_
                  rintro e w8 ⟨rfl, v8, l8, hv8, hp8, hh8, ht8, hb8⟩
                  have hoi8 := HOI9.out.push HF.out hv8 hh8 ht8 hb8
                  have hT8 : Turn (fun q => q = mM ∨ K ≤ q) w6 w8 := HT7.out.trans (ht8.mono (fun q hq => .inr (by
                    rcases hq with e | e
                    · omega
                    · exact HOI9.out.vhk q e)))
                  have HOI8 := Aside0.mk hoi8
                  have HT8 := Aside0.mk hT8
                  have HP8 := Aside0.mk hp8
                  clear hv8 hp8 hh8 ht8 hb8 hoi8 hT8
                  go_wp2_with fail
                  refine ⟨⟨k + 1, v8, l8, by go_num, by omega, HOI8.out, (HP8.out.nodup_iff).2 (List.nodup_cons.2 ⟨HYL7.out, HND7.out⟩), fun z => ?_, HT8.out⟩, by simp [intOf]; omega⟩
                  rw [HP8.out.mem_iff, List.mem_cons, HMM7.out, HTK.out, List.mem_append, List.mem_singleton]
                  constructor
                  · rintro (rfl | h1 | ⟨h1, h2⟩)
                    · exact .inr ⟨.inr rfl, HC0.out⟩
                    · exact .inl h1
                    · exact .inr ⟨.inl h1, h2⟩
                  · rintro (h1 | ⟨h1 | h1, h2⟩)
                    · exact .inr (.inl h1)
                    · exact .inr (.inr ⟨h1, h2⟩)
                    · exact .inl h1
                · go_wp2_with fail
                  refine ⟨⟨k + 1, v7, l7, by go_num, by omega, HOI9.out, HND7.out, fun z => ?_, HT7.out⟩, by simp [intOf]; omega⟩
                  rw [HMM7.out, HTK.out, List.mem_append, List.mem_singleton]
                  constructor
                  · rintro (h1 | ⟨h1, h2⟩)
                    · exact .inl h1
                    · exact .inr ⟨.inl h1, h2⟩
                  · rintro (h1 | ⟨h1 | h1, h2⟩)
                    · exact .inl h1
                    · exact .inr ⟨h1, h2⟩
                    · rw [h1, HC0.out] at h2
                      exact absurd h2 hz
            · obtain rfl : k = (bl x).length := by omega
              as_aux_lemma =>
                rw [List.take_length] at hoi hmm7
                have hmm8 : ∀ y, y ∈ l7 ↔ ready s (out ++ [x]) y := fun y => (hmm7 y).trans (r_end HS.out HOP.out HXR.out HBLX.out y)
                have hoi8 := hoi.congr (g' := cnt s (out ++ [x])) (fun y hy => c_end HS.out HXR.out.2.1 HXR.out.1 HBLX.out y hy)
                have hop8 : OrdPre s (out ++ [x]) := ord_snoc HOP.out HXR.out (fun y hy => HLE5.out y ((HMM.out y).2 hy))
                have HOI8 := Aside0.mk hoi8
                have HMM8 := Aside0.mk hmm8
                have HOP8 := Aside0.mk hop8
                clear hoi hnd7 hmm7 hmm8 hoi8 hop8
                go_wp2_with fail
                have hol8 := ord_len HOP8.out
                have hll : (out ++ [x]).length = out.length + 1 := by simp
                refine ⟨⟨A6, c6, out ++ [x], v7, l7, by rw [hll], by rw [hll]; exact HOI8.out, HND7.out, HMM8.out, HOP8.out⟩, ?_⟩
                rw [hll] at hol8
                simp only [lenOf]
                omega
    · intro x c kl y w3 cn1 hkey hlk hv hat hrg1 hlt hg1 hs1 hen
      have hkl := keyOf9_lit hkey
      subst hkl
      have hy : y = (.held c, []) := by simpa [raw] using hv.symm
      subst hy
      have hlook := at_look (fun zd => hat zd)
      rw [HMV.out] at hlook
      have hxG : ahas s.G (bz x) = true := by
        by_cases e : ahas s.G (bz x) = true
        · exact e
        · rw [if_neg e] at hlook; cases hlook
      rw [if_pos hxG] at hlook
      injection hlook with hlook
      subst hlook
      have hnin : bz x ∉ hl := fun e => by
        have := ((HMM.out _).1 e).2.1
        rw [hlk] at this; cases this
      have hrn := ranges_not HRG.out
      have hoi3 := HO.out.away HF.out (turn_grown hg1) (fun k e => by
        injection e with e
        subst e
        exact ⟨by omega, by omega, hrn.2⟩)
      by_cases hz : cnt s [] (bz x) = 0
      · have hlen : hl.length ≤ s.G.length := heads_len HND.out (fun y hy => ((HMM.out y).1 hy).1)
        have hG := HS.out.g
        have hp := push_calls hoi3.heap hoi3.ish (bz x) (by omega)
        rw [mkS_bz] at hp
        rw [hz] at hen ⊢
        have HP := Aside0.mk hp
        have HOI3 := Aside0.mk hoi3
        have HRG1 := Aside0.mk hrg1
        have HLT := Aside0.mk hlt
        have HXG := Aside0.mk hxG
        have HLK := Aside0.mk hlk
        have HNIN := Aside0.mk hnin
        clear hkey hlk hv hat hrg1 hlt hg1 hs1 hp hoi3 hrn hxG hnin
        as_aux_lemma =>
          go_wp2_with fail
          refine HP.out.mono ?_
          rintro e w5 ⟨rfl, v5, l5, hv5, hp5, hh5, ht5, hb5⟩
          have hoi5 := HOI3.out.push HF.out hv5 hh5 ht5 hb5
          have hb1 := HOI3.out.heap
          have hr5 := ranges_turn HRG1.out ht5 (by
            have := HF.out.mK
            rintro (e | e)
            · omega
            · have := HOI3.out.vhk _ e; omega) (by
            rintro (e | e)
            · omega
            · exact own_not hb1.own (ranges_not HRG1.out).2 e)
          have HOI5 := Aside0.mk hoi5
          have HR5 := Aside0.mk hr5
          have HP5 := Aside0.mk hp5
          clear hv5 hp5 hh5 ht5 hb5 hoi5 hr5 hb1 hen
          go_wp2_with fail
          refine ⟨⟨_, _, v5, l5, HR5.out, HOI5.out, (HP5.out.nodup_iff).2 (List.nodup_cons.2 ⟨HNIN.out, HND.out⟩), fun y => ?_⟩, ?_⟩
          · rw [HP5.out.mem_iff, List.mem_cons, HMM.out]
            simp only [same_str, Bool.and_eq_false_iff, Bool.not_eq_false', beq_iff_eq]
            constructor
            · rintro (rfl | ⟨a1, a2, a3⟩)
              · exact ⟨HXG.out, .inr rfl, hz⟩
              · exact ⟨a1, .inl a2, a3⟩
            · rintro ⟨a1, a2 | a2, a3⟩
              · exact .inr ⟨a1, a2, a3⟩
              · exact .inl a2
          · show w5.rangeLeft mM (K + 1 + 1) < wr.rangeLeft mM (K + 1 + 1)
            rw [HR5.out.left_eq, HRG.out.left_eq]
            exact HLT.out
      · generalize hcn : cnt s [] (bz x) = n0 at hen hz ⊢
        have HCN := Aside0.mk hcn
        have HOI3 := Aside0.mk hoi3
        have HRG1 := Aside0.mk hrg1
        have HLT := Aside0.mk hlt
        clear hkey hlk hv hat hrg1 hlt hg1 hs1 hoi3 hrn hxG hnin hcn
        as_aux_lemma =>
          go_wp2_with fail
          refine ⟨⟨_, _, vh, hl, HRG1.out, HOI3.out, HND.out, fun y => ?_⟩, ?_⟩
          · rw [HMM.out]
            simp only [same_str, Bool.and_eq_false_iff, Bool.not_eq_false', beq_iff_eq]
            constructor
            · rintro ⟨a1, a2, a3⟩
              exact ⟨a1, .inl a2, a3⟩
            · rintro ⟨a1, a2 | a2, a3⟩
              · exact ⟨a1, a2, a3⟩
              · rw [a2, HCN.out] at a3
                exact absurd a3 hz
          · show w3.rangeLeft mM (K + 1 + 1) < wr.rangeLeft mM (K + 1 + 1)
            rw [HRG1.out.left_eq, HRG.out.left_eq]
            exact HLT.out
end Go.Proofs.YtflioeiklcnncaaGreatDoor.Ri

set_option linter.unusedVariables false
set_option linter.unusedSimpArgs false
namespace Go.Proofs.YtflioeiklcnncaaGreatDoor.Ri
open Go.RowKit Go.Maps Go.Sort Go.Proofs.YtflioeiklcnncaaGreatDoorW.PrintWords Go.Proofs.YtflioeiklcnncaaGreatDoor.PRing

/-! ### New -/
set_option maxRecDepth 100000 in
theorem New_calls (W : World) : Calls Tryz.prog 8 #[] W fun e w' => e = .returned (.pointer (some ⟨W.heap.size + 1 + 1, 0, none⟩)) ∧ RingAt w' (fun k => W.heap.size + 1 + 1 ≤ k) (W.heap.size + 1 + 1) W.heap.size (W.heap.size + 1) ⟨[], []⟩ ∧ Below W.heap.size W w' := by
  have hmm := @run_makeMap Tryz.prog
  go_enter Tryz.func8, Tryz.ntmps8
  go_wp2_with fail
  go_ret
  have e1 : (((W.alloc (.map #[] 0)).alloc (.map #[] 0)).alloc (.cells #[.map (some W.heap.size), .map (some (W.heap.size + 1))] 61)).heap[W.heap.size + 1 + 1]? = some (.cells #[.map (some W.heap.size), .map (some (W.heap.size + 1))] 61 (0, 0)) := al_new _ (al_size _ (al_size _ rfl))
  refine ⟨rfl, ⟨?_, ?_, Nat.le_refl _, by omega, by omega, by omega, ⟨fun _ => .int .i64 0, map_new (al_old _ (al_old _ (al_new _ rfl))), fun p hp => by simp at hp⟩, ⟨fun _ => .int .i64 0, map_new (al_old _ (al_new _ (al_size _ rfl))), fun p hp => by simp at hp⟩⟩, al_below _ (al_below _ (al_below _ (Below.refl _ _)))⟩
  · simp only [World.cell?, e1]; rfl
  · simp only [World.cell?, e1]; rfl

/-! ### the document's ring in memory -/
structure RefAt (W : World) (ok : Nat → Prop) (q : Nat) (s : St) : Prop where
  blk : ∃ vp vg, W.heap[q]? = some (.cells #[vp, vg] 33 (0, 0)) ∧ Ppl W ok vp s.P ∧ Grps W ok vg s.G
  qok : ¬ ok q
theorem RefAt.turn {S ok : Nat → Prop} {W W' : World} {q : Nat} {s : St} (h : RefAt W ok q s) (ht : Turn S W W') (hq : ¬ S q) (hS : ∀ k, ok k → ¬ S k) : RefAt W' ok q s := by
  obtain ⟨vp, vg, h1, h2, h3⟩ := h.blk
  exact ⟨⟨vp, vg, by rw [ht.block q (Array.getElem?_eq_some_iff.1 h1).1 hq]; exact h1, ht.V h2 hS, ht.V h3 hS⟩, h.qok⟩
theorem RefAt.below {ok : Nat → Prop} {W W' : World} {q : Nat} {s : St} (h : RefAt W ok q s) (hb : Below W.heap.size W W') : RefAt W' ok q s :=
  h.turn (S := fun _ => False) (.of_below hb) (fun e => e) (fun _ _ e => e)
theorem two_cells {W : World} {q t : Nat} {u v : Value} (h : W.heap[q]? = some (.cells #[u, v] t (0, 0))) : W.cell? ⟨q, 0, none⟩ = some u ∧ W.cell? ⟨q, 1, none⟩ = some v ∧ W.frozen? ⟨q, 0, none⟩ = false ∧ W.frozen? ⟨q, 1, none⟩ = false := by
  refine ⟨?_, ?_, ?_, ?_⟩ <;> simp [World.cell?, World.frozen?, h]
theorem grp_at {W : World} {ok : Nat → Prop} {A : Option Addr} {l : List (B × List B)} (h : Kd.F k46 W ok A (l.map group).length (l.map group)) {k : Nat} (hk : k < l.length) :
    ∃ ad A1 c1, A = some ad ∧ W.cell? (ad.add (k * 2)) = some (.string (mkS l[k].1)) ∧ W.cell? ⟨(ad.add (k * 2)).block, (ad.add (k * 2)).off + 1, none⟩ = some (.slice A1 l[k].2.length c1) ∧ Strs W ok (.slice A1 l[k].2.length c1) l[k].2 := by
  obtain ⟨ad, c, e, _, hK, hc, _⟩ := Kd.F_get h z46 (k : Int) (by omega) (by simp; omega)
  obtain ⟨A1, c1, rfl, l1, g1⟩ := k46_openF hK
  have e1 : (l.map group).getD ((k : Int).toNat) z46 = group l[k] := by simp [hk]
  rw [e1] at l1 g1 hc
  simp only [group, List.length_map] at l1 g1 hc
  refine ⟨ad, A1, c1, e, ?_, ?_, A1, c1, ?_, ?_, ?_⟩
  · exact hc 0 _ rfl
  · rw [← add_field _ _ 1 (by omega)]; exact hc 1 _ rfl
  · rw [List.length_map]
  · rw [List.length_map]; exact l1
  · rw [List.length_map]; exact g1
/-- Where a name stands; -1: nowhere. -/
def idx {V : Type} (l : List (B × V)) (nm : B) : Int := match l.findIdx? (fun p => p.1 == nm) with | some i => (i : Int) | none => -1
theorem idx_ge {V : Type} (l : List (B × V)) (nm : B) : decide (0 ≤ idx l nm) = ahas l nm := by
  unfold idx ahas
  cases h : l.findIdx? (fun p => p.1 == nm) with
  | none =>
    rw [List.findIdx?_eq_none_iff] at h
    simp only [Int.reduceNeg, Int.reduceLE, decide_false]
    rw [eq_comm, List.any_eq_false]
    intro p hp
    have := h p hp
    simpa using this
  | some i =>
    obtain ⟨hi, hp, _⟩ := List.findIdx?_eq_some_iff_getElem.1 h
    rw [decide_eq_true (by simp), eq_comm, List.any_eq_true]
    exact ⟨_, List.getElem_mem hi, hp⟩
theorem idx_here {V : Type} {l : List (B × V)} {nm : B} {k : Nat} (hk : k < l.length) (hno : ∀ p ∈ l.take k, p.1 ≠ nm) (h : l[k].1 = nm) : idx l nm = (k : Int) := by
  unfold idx
  have : l.findIdx? (fun p => p.1 == nm) = some k := by
    rw [List.findIdx?_eq_some_iff_getElem]
    refine ⟨hk, by simpa using h, fun j hj => ?_⟩
    have := hno l[j] (List.mem_iff_getElem.2 ⟨j, by simp; omega, by rw [List.getElem_take]⟩)
    simpa using this
  rw [this]
theorem idx_none {V : Type} {l : List (B × V)} {nm : B} (hno : ∀ p ∈ l, p.1 ≠ nm) : idx l nm = -1 := by
  unfold idx
  have : l.findIdx? (fun p => p.1 == nm) = none := by
    rw [List.findIdx?_eq_none_iff]
    intro p hp
    simpa using hno p hp
  rw [this]
theorem strs_eq (x y : B) : ((mkS x).toList == (mkS y).toList) = decide (x = y) := by
  rw [mkS_toList, mkS_toList]
  by_cases h : x = y <;> simp [h]
set_option maxRecDepth 100000 in
set_option maxHeartbeats 800000 in
theorem person36 {W : World} {ok : Nat → Prop} {q : Nat} {s : St} (h : RefAt W ok q s) (hP : s.P.length ≤ 1000) (nm : B) :
    Calls Tryz.prog 36 #[.pointer (some ⟨q, 0, none⟩), .string (mkS nm)] W fun e w' => e = .returned (.int .i64 (idx s.P nm)) ∧ w' = W := by
  obtain ⟨vp, vg, hb, ⟨A, c, rfl, hl, hf⟩, _⟩ := h.blk
  obtain ⟨c0, _, _, _⟩ := two_cells hb
  have hlen : (s.P.map person).length = s.P.length := List.length_map ..
  have HF := Aside0.mk hf
  rw [hlen] at c0
  clear hf hb h hl hlen
  go_enter Tryz.func36, Tryz.ntmps36
  go_wp2_with fail
  go_loopw [5] (fun i wr => ∃ k : Nat, k ≤ s.P.length ∧ i = .int .i64 k ∧ (∀ p ∈ s.P.take k, p.1 ≠ nm) ∧ wr = W) (fun i _ => s.P.length - (intOf i).toNat)
  case atStart => exact ⟨0, Nat.zero_le _, rfl, by simp, rfl⟩
  case round =>
    obtain ⟨k, hk, rfl, hno, rfl⟩ := hrel
    have HNO := Aside0.mk hno
    clear hno
    by_cases hlt : k < s.P.length
    · obtain ⟨ad, A1, c1, rfl, hc0, hc1, hv⟩ := ppl_at HF.out hlt
      have hcmp := strs_eq s.P[k].1 nm
      by_cases he : s.P[k].1 = nm
      · rw [decide_eq_true he] at hcmp
        have HE := Aside0.mk (idx_here hlt HNO.out he)
        clear he
        go_wp2_with fail
        go_ret
        exact ⟨by rw [HE.out]; rfl, rfl⟩
      · rw [decide_eq_false he] at hcmp
        have HE := Aside0.mk he
        clear he
        go_wp2_with fail
        refine ⟨⟨k + 1, by omega, by go_num, fun p hp => ?_, trivial⟩, by simp [intOf]; omega⟩
        rw [List.take_succ_eq_append_getElem hlt] at hp
        rcases List.mem_append.1 hp with hp | hp
        · exact HNO.out p hp
        · rw [List.mem_singleton.1 hp]; exact HE.out
    · obtain rfl : k = s.P.length := by omega
      go_wp2_with fail
      go_ret
      have := HNO.out
      rw [List.take_length] at this
      exact ⟨by rw [idx_none this]; rfl, rfl⟩
set_option maxRecDepth 100000 in
set_option maxHeartbeats 800000 in
theorem group35 {W : World} {ok : Nat → Prop} {q : Nat} {s : St} (h : RefAt W ok q s) (hP : s.G.length ≤ 1000) (nm : B) :
    Calls Tryz.prog 35 #[.pointer (some ⟨q, 0, none⟩), .string (mkS nm)] W fun e w' => e = .returned (.int .i64 (idx s.G nm)) ∧ w' = W := by
  obtain ⟨vp, vg, hb, _, ⟨A, c, rfl, hl, hf⟩⟩ := h.blk
  obtain ⟨_, c0, _, _⟩ := two_cells hb
  have hlen : (s.G.map group).length = s.G.length := List.length_map ..
  have HF := Aside0.mk hf
  rw [hlen] at c0
  clear hf hb h hl hlen
  go_enter Tryz.func35, Tryz.ntmps35
  go_wp2_with fail
  go_loopw [5] (fun i wr => ∃ k : Nat, k ≤ s.G.length ∧ i = .int .i64 k ∧ (∀ p ∈ s.G.take k, p.1 ≠ nm) ∧ wr = W) (fun i _ => s.G.length - (intOf i).toNat)
  case atStart => exact ⟨0, Nat.zero_le _, rfl, by simp, rfl⟩
  case round =>
    obtain ⟨k, hk, rfl, hno, rfl⟩ := hrel
    have HNO := Aside0.mk hno
    clear hno
    by_cases hlt : k < s.G.length
    · obtain ⟨ad, A1, c1, rfl, hc0, hc1, hv⟩ := grp_at HF.out hlt
      have hcmp := strs_eq s.G[k].1 nm
      by_cases he : s.G[k].1 = nm
      · rw [decide_eq_true he] at hcmp
        have HE := Aside0.mk (idx_here hlt HNO.out he)
        clear he
        go_wp2_with fail
        go_ret
        exact ⟨by rw [HE.out]; rfl, rfl⟩
      · rw [decide_eq_false he] at hcmp
        have HE := Aside0.mk he
        clear he
        go_wp2_with fail
        refine ⟨⟨k + 1, by omega, by go_num, fun p hp => ?_, trivial⟩, by simp [intOf]; omega⟩
        rw [List.take_succ_eq_append_getElem hlt] at hp
        rcases List.mem_append.1 hp with hp | hp
        · exact HNO.out p hp
        · rw [List.mem_singleton.1 hp]; exact HE.out
    · obtain rfl : k = s.G.length := by omega
      go_wp2_with fail
      go_ret
      have := HNO.out
      rw [List.take_length] at this
      exact ⟨by rw [idx_none this]; rfl, rfl⟩
set_option maxRecDepth 100000 in
set_option maxHeartbeats 800000 in
theorem there34 {W : World} {ok : Nat → Prop} {q : Nat} {s : St} (h : RefAt W ok q s) (hP : s.P.length ≤ 1000) (hG : s.G.length ≤ 1000) (nm : B) :
    Calls Tryz.prog 34 #[.pointer (some ⟨q, 0, none⟩), .string (mkS nm)] W fun e w' => e = .returned (.bool (there s nm)) ∧ w' = W := by
  have h1 := person36 h hP nm
  have h2 := group35 h hG nm
  have i1 := idx_ge s.P nm
  have i2 := idx_ge s.G nm
  have hth : there s nm = (ahas s.P nm || ahas s.G nm) := rfl
  rw [hth]
  generalize idx s.P nm = x1 at h1 i1
  generalize idx s.G nm = x2 at h2 i2
  generalize ahas s.P nm = b1 at i1 ⊢
  generalize ahas s.G nm = b2 at i2 ⊢
  have H1 := Aside0.mk h1
  have H2 := Aside0.mk h2
  clear h h1 h2 hth
  have hx1 : (0 ≤ x1) ∨ ¬ (0 ≤ x1) := by omega
  rcases hx1 with hx1 | hx1
  · rw [decide_eq_true hx1] at i1
    subst i1
    go_enter Tryz.func34, Tryz.ntmps34
    go_wp2_with fail
    refine H1.out.mono ?_
    rintro e w' ⟨rfl, rfl⟩
    go_wp2_with fail
    go_ret
    exact ⟨rfl, rfl⟩
  · have HX := Aside0.mk hx1
    rw [decide_eq_false hx1] at i1
    subst i1
    go_enter Tryz.func34, Tryz.ntmps34
    go_wp2_with fail
    refine H1.out.mono ?_
    rintro e w' ⟨rfl, rfl⟩
    go_wp2_with fail
    refine H2.out.mono ?_
    rintro e w' ⟨rfl, rfl⟩
    go_wp2_with fail
    go_ret
    exact ⟨by rw [Bool.false_or, ← i2]; show Ending.returned (.bool (decide (0 ≤ x1) || decide (0 ≤ x2))) = _; rw [decide_eq_false (by have := HX.out; omega), Bool.false_or], rfl⟩
set_option maxRecDepth 100000 in
set_option maxHeartbeats 800000 in
theorem who17 {W : World} {ok ok' : Nat → Prop} {q : Nat} {s : St} (h : RefAt W ok q s) (hP : s.P.length ≤ 1000) (hsz : ∀ p ∈ s.P, p.2.length ≤ 1000) {pv : Value} {p : B} (hp : Bts W ok' pv p) :
    Calls Tryz.prog 17 #[.pointer (some ⟨q, 0, none⟩), pv] W fun e w' => e = .returned (.string (mkS (who s p))) ∧ ∃ n, w' = W.drewN n := by
  obtain ⟨vp, vg, hb, ⟨A, c, rfl, hl, hf⟩, _⟩ := h.blk
  obtain ⟨c0, _, _, _⟩ := two_cells hb
  have hlen : (s.P.map person).length = s.P.length := List.length_map ..
  have HF := Aside0.mk hf
  have HPV := Aside0.mk hp
  have HSZ := Aside0.mk hsz
  rw [hlen] at c0
  clear hf hb h hl hlen hp hsz
  go_enter Tryz.func17, Tryz.ntmps17
  go_wp2_with fail
  go_loopw [5] (fun i wr => ∃ k : Nat, k ≤ s.P.length ∧ i = .int .i64 k ∧ who s p = (((s.P.drop k).find? fun q => decide (q.2 = p)).map (·.1)).getD [] ∧ ∃ n, wr = W.drewN n) (fun i _ => s.P.length - (intOf i).toNat)
  case atStart => exact ⟨0, Nat.zero_le _, rfl, rfl, 0, rfl⟩
  case round =>
    obtain ⟨k, hk, rfl, hw, n, rfl⟩ := hrel
    have HW := Aside0.mk hw
    clear hw
    by_cases hlt : k < s.P.length
    · obtain ⟨ad, A1, c1, rfl, hc0, hc1, hv⟩ := ppl_at HF.out hlt
      have heq := eq21 (W := W.drewN n) (Kd.V_below hv (pw_below_drewN (Below.refl _ _) n)) (Kd.V_below HPV.out (pw_below_drewN (Below.refl _ _) n))
      have HEQ := Aside0.mk heq
      have hd : s.P.drop k = s.P[k] :: s.P.drop (k + 1) := List.drop_eq_getElem_cons hlt
      by_cases he : s.P[k].2 = p
      · have hwho : who s p = s.P[k].1 := by rw [HW.out, hd, List.find?_cons_of_pos (p := fun q : B × B => decide (q.2 = p)) (by simpa using he)]; rfl
        have HWH := Aside0.mk hwho
        have hdt : decide (s.P[k].2 = p) = true := decide_eq_true he
        clear hd hwho he hv heq
        go_wp2_with fail
        refine HEQ.out.mono ?_
        rintro e w2 ⟨rfl, ⟨n2, rfl⟩⟩
        go_wp2_with fail
        go_ret
        exact ⟨by show Ending.returned (Value.string _) = _; rw [HWH.out], n + n2, by simp⟩
      · have hwho : who s p = (((s.P.drop (k + 1)).find? fun q => decide (q.2 = p)).map (·.1)).getD [] := by rw [HW.out, hd, List.find?_cons_of_neg (p := fun q : B × B => decide (q.2 = p)) (by simpa using he)]
        have HWH := Aside0.mk hwho
        have hdt : decide (s.P[k].2 = p) = false := decide_eq_false he
        clear hd hwho he hv heq
        go_wp2_with fail
        refine HEQ.out.mono ?_
        rintro e w2 ⟨rfl, ⟨n2, rfl⟩⟩
        go_wp2_with fail
        exact ⟨⟨k + 1, by omega, by go_num, HWH.out, n + n2, by simp⟩, by simp [intOf]; omega⟩
    · obtain rfl : k = s.P.length := by omega
      go_wp2_with fail
      go_ret
      exact ⟨by rw [HW.out]; simp [mkS], n, rfl⟩
end Go.Proofs.YtflioeiklcnncaaGreatDoor.Ri
