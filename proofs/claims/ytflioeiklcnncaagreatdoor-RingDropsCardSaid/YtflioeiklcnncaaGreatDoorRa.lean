/- Maps whose keys are strings, as association lists of raw values: what a look-up, a store, a delete and len come to. No condition on the elements. -/
import Derived.Maps.RangeWalk
import Derived.Maps.OwnSet
import Derived.Sort.KeysCollected
import Derived.Test.YtflioeiklcnncaaGreatDoorPRx
import Derived.Test.YtflioeiklcnncaaGreatDoorSh
import Derived.Deep.RegionHeld3
namespace Go.Proofs.YtflioeiklcnncaaGreatDoor.Ri
open Go.RowKit Go.Maps Go.Sort

abbrev B := List UInt8

section al
variable {V : Type}
def ahas (l : List (B × V)) (k : B) : Bool := l.any (fun p => p.1 == k)
def alook (l : List (B × V)) (k : B) : Option V := (l.find? (fun p => p.1 == k)).map (·.2)
def adel (l : List (B × V)) (k : B) : List (B × V) := l.filter (fun p => !(p.1 == k))
def ains (x : B × V) : List (B × V) → List (B × V)
  | [] => [x]
  | y :: r => if bytesBefore x.1 y.1 then x :: y :: r else y :: ains x r
def aput (l : List (B × V)) (k : B) (v : V) : List (B × V) := ains (k, v) (adel l k)
def Srt (l : List (B × V)) : Prop := l.Pairwise (fun p q => bytesBefore p.1 q.1 = true)
end al

theorem bb_irrefl : ∀ a : B, bytesBefore a a = false
  | [] => rfl
  | a :: r => by simp [bytesBefore, bb_irrefl r]
theorem bb_trans : ∀ {a b c : B}, bytesBefore a b = true → bytesBefore b c = true → bytesBefore a c = true
  | [], [], _, h, _ => by simp [bytesBefore] at h
  | [], _ :: _, [], _, h => by simp [bytesBefore] at h
  | [], _ :: _, _ :: _, _, _ => rfl
  | _ :: _, [], _, h, _ => by simp [bytesBefore] at h
  | _ :: _, _ :: _, [], _, h => by simp [bytesBefore] at h
  | a :: r, b :: s, c :: t, h, h' => by
    simp only [bytesBefore, Bool.or_eq_true, decide_eq_true_eq, Bool.and_eq_true, beq_iff_eq] at h h' ⊢
    rcases h with h | ⟨rfl, h⟩
    · rcases h' with h' | ⟨rfl, h'⟩
      · exact .inl (UInt8.lt_trans h h')
      · exact .inl h
    · rcases h' with h' | ⟨rfl, h'⟩
      · exact .inl h'
      · exact .inr ⟨rfl, bb_trans h h'⟩
theorem bb_total : ∀ (a b : B), bytesBefore a b = true ∨ a = b ∨ bytesBefore b a = true
  | [], [] => .inr (.inl rfl)
  | [], _ :: _ => .inl rfl
  | _ :: _, [] => .inr (.inr rfl)
  | a :: r, b :: s => by
    simp only [bytesBefore, Bool.or_eq_true, decide_eq_true_eq, Bool.and_eq_true, beq_iff_eq]
    by_cases h1 : a < b
    · exact .inl (.inl h1)
    · by_cases h2 : b < a
      · exact .inr (.inr (.inl h2))
      · have e : a = b := by
          have h1' := UInt8.not_lt.1 h1
          have h2' := UInt8.not_lt.1 h2
          exact UInt8.le_antisymm h2' h1'
        subst e
        rcases bb_total r s with h | rfl | h
        · exact .inl (.inr ⟨rfl, h⟩)
        · exact .inr (.inl rfl)
        · exact .inr (.inr (.inr ⟨rfl, h⟩))
theorem bb_asymm {a b : B} (h : bytesBefore a b = true) : bytesBefore b a = false := by
  cases h' : bytesBefore b a
  · rfl
  · have := bb_trans h h'; rw [bb_irrefl] at this; cases this
theorem bb_ne {a b : B} (h : bytesBefore a b = true) : a ≠ b := by rintro rfl; rw [bb_irrefl] at h; cases h
theorem bb_lt : ∀ (a b : B), bytesBefore a b = true ↔ a < b
  | [], [] => by simp [bytesBefore]
  | [], _ :: _ => by simp [bytesBefore]
  | _ :: _, [] => by simp [bytesBefore]
  | a :: r, b :: s => by
    simp only [bytesBefore, Bool.or_eq_true, decide_eq_true_eq, Bool.and_eq_true, beq_iff_eq, List.cons_lt_cons_iff, bb_lt r s]

/-! ### raw maps -/
def raw (v : Value) : Option (DataW Value × List MemPlace) := some (.held v, [])
def ent (p : B × Value) : Lit × DataW Value := (.string p.1, .held p.2)
def mapD (l : List (B × Value)) : DataW Value := .map (l.map ent)
theorem ent_inj {p q : B × Value} (h : ent p = ent q) : p = q := by
  obtain ⟨a, b⟩ := p
  obtain ⟨c, d⟩ := q
  simp [ent] at h
  simp [h]
theorem same_str (a b : B) : (Lit.string a).sameKey (.string b) = (a == b) := rfl
theorem mapD_has (l : List (B × Value)) (k : B) : Maps.has (mapD l) (.string k) = ahas l k := by
  simp only [mapD, Maps.has, ahas, List.any_map]
  rfl
theorem mapD_size (l : List (B × Value)) : Maps.size (mapD l) = l.length := by simp [mapD, Maps.size]
theorem mapD_at (l : List (B × Value)) (k : B) (z : Value) : (mapD l).atKey (.string k) (.held z) = .held ((alook l k).getD z) := by
  simp only [mapD, DataW.atKey, alook, List.find?_map]
  have : ((fun p : Lit × DataW Value => p.1.sameKey (.string k)) ∘ ent) = fun p : B × Value => p.1 == k := rfl
  rw [this]
  cases l.find? (fun p => p.1 == k) <;> rfl
theorem mapD_del (l : List (B × Value)) (k : B) : (mapD l).del (.string k) = mapD (adel l k) := by
  simp only [mapD, DataW.del, adel, List.filter_map]
  rfl
theorem ent_ins (x : B × Value) : ∀ l : List (B × Value), DataW.insert (ent x) (l.map ent) = (ains x l).map ent
  | [] => rfl
  | y :: r => by
    simp only [List.map_cons, DataW.insert, ains]
    have : (ent x).1.before (ent y).1 = bytesBefore x.1 y.1 := rfl
    rw [this]
    split
    · rfl
    · rw [List.map_cons, ent_ins x r]
theorem mapD_put (l : List (B × Value)) (k : B) (v : Value) : (mapD l).put (.string k) (.held v) = mapD (aput l k v) := by
  simp only [mapD, DataW.put, aput, List.filter_map, adel]
  rw [← ent_ins]
  rfl

/-- Block b is a map, keyed by strings, of at most n entries: just those of l, which rises. -/
def MapAt (w : World) (b n : Nat) (l : List (B × Value)) : Prop := w.ownsMap Tryz.prog 9 raw b n (mapD l)

theorem law9 : Keyed Tryz.prog 9 := string_keyed Tryz.underlying9
theorem keyOf9 {s : ByteArray} (hs : s.size ≤ maxLen) : keyOf Tryz.prog 9 (.string s) = some (.string s.data.toList) := WideMaps.keyOf_string_mk Tryz.underlying9 hs

theorem rising_srt : ∀ l : List (B × Value), DataW.rising (l.map ent) = true → Srt l
  | [], _ => List.Pairwise.nil
  | [_], _ => List.pairwise_singleton _ _
  | a :: b :: r, h => by
    simp only [List.map_cons, DataW.rising, Bool.and_eq_true] at h
    have hab : bytesBefore a.1 b.1 = true := h.1
    have ih := rising_srt (b :: r) (by simpa using h.2)
    refine List.Pairwise.cons (fun p hp => ?_) ih
    rcases List.mem_cons.1 hp with rfl | hp
    · exact hab
    · exact bb_trans hab ((List.pairwise_cons.1 ih).1 p hp)
theorem MapAt.srt {w : World} {b n : Nat} {l : List (B × Value)} (h : MapAt w b n l) : Srt l := by
  obtain ⟨es, clock, hb, F, hs, hD⟩ := h
  have := Maps.fit_rising law9 F
  refine rising_srt l ?_
  have e : l.map ent = (es.toList.map (WideElems.rg Tryz.prog 9 raw)).foldr DataW.insert [] := by
    simpa [mapD] using hD
  rw [e]
  exact this
theorem MapAt.len {w : World} {b n : Nat} {l : List (B × Value)} (h : MapAt w b n l) : l.length ≤ n := by
  have := World.ownsMap.size_le h
  rwa [mapD_size] at this
theorem MapAt.lt {w : World} {b n : Nat} {l : List (B × Value)} (h : MapAt w b n l) : b < w.heap.size := World.ownsMap.lt h
theorem MapAt.move {w w' : World} {b n : Nat} {l : List (B × Value)} (h : MapAt w b n l) (hb : w'.heap[b]? = w.heap[b]?) : MapAt w' b n l := by
  obtain ⟨es, clock, h1, r⟩ := h
  exact ⟨es, clock, hb.trans h1, r⟩
theorem MapAt.mono {w : World} {b n n' : Nat} {l : List (B × Value)} (h : MapAt w b n l) (hn : n ≤ n') : MapAt w b n' l := World.ownsMap.mono h hn
theorem MapAt.made (w : World) : MapAt (w.alloc (.map #[] 0)) w.heap.size 0 [] := World.ownsMap_made w _ _ _

/-- 'v, ok := m[k]', 'm[k]'. -/
theorem MapAt.look {w : World} {b n : Nat} {l : List (B × Value)} (h : MapAt w b n l) {t e : TypeId} (ht : Tryz.prog.underlying t = some (.map 9 e)) {z : Value} (hz : (zeroValue e).run Tryz.prog w = .ok z w) {s : ByteArray} (hs : s.size ≤ maxLen) :
    (Instr.lookup t (.map (some b)) (.string s) true).run Tryz.prog w = .ok (.tuple #[(alook l s.data.toList).getD z, .bool (ahas l s.data.toList)]) w := by
  obtain ⟨v, ps, hrun, hv⟩ := World.ownsMap.look_ok h law9 ht hz (zd := .held z) (zp := []) rfl (keyOf9 hs)
  rw [mapD_at] at hv
  rw [mapD_has] at hrun
  have : v = (alook l s.data.toList).getD z := by
    simp only [raw, Option.some.injEq, Prod.mk.injEq, DataW.held.injEq] at hv
    exact hv.1
  rw [← this]
  exact hrun
theorem MapAt.look1 {w : World} {b n : Nat} {l : List (B × Value)} (h : MapAt w b n l) {t e : TypeId} (ht : Tryz.prog.underlying t = some (.map 9 e)) {z : Value} (hz : (zeroValue e).run Tryz.prog w = .ok z w) {s : ByteArray} (hs : s.size ≤ maxLen) :
    (Instr.lookup t (.map (some b)) (.string s) false).run Tryz.prog w = .ok ((alook l s.data.toList).getD z) w := by
  obtain ⟨v, ps, hrun, hv⟩ := World.ownsMap.lookup h law9 ht hz (zd := .held z) (zp := []) rfl (keyOf9 hs)
  rw [mapD_at] at hv
  have : v = (alook l s.data.toList).getD z := by
    simp only [raw, Option.some.injEq, Prod.mk.injEq, DataW.held.injEq] at hv
    exact hv.1
  rw [← this]
  exact hrun
theorem MapAt.length {w : World} {b n : Nat} {l : List (B × Value)} (h : MapAt w b n l) {t e : TypeId} (ht : Tryz.prog.underlying t = some (.map 9 e)) (ty : TypeId) :
    (Builtin.len_ #[t] ty #[.map (some b)]).run Tryz.prog w = .ok (.int .i64 l.length) w := by
  have := World.ownsMap.len h ht ty
  rwa [mapD_size] at this
theorem MapAt.store {w : World} {b n : Nat} {l : List (B × Value)} (h : MapAt w b n l) {t e : TypeId} (ht : Tryz.prog.underlying t = some (.map 9 e)) (hn : n < maxLen) {s : ByteArray} (hs : s.size ≤ maxLen) (v : Value) :
    ∃ w', (Instr.mapUpdate t (.map (some b)) (.string s) v).run Tryz.prog w = .ok () w' ∧ MapAt w' b (n + 1) (aput l s.data.toList v) ∧ w.mapTurned w' b := by
  obtain ⟨w', h1, h2, h3⟩ := World.ownsMap.store (val := v) h law9 ht hn (keyOf9 hs) (d := .held v) (ps := []) rfl
  rw [mapD_put] at h2
  exact ⟨w', h1, h2, h3⟩
theorem MapAt.drop {w : World} {b n : Nat} {l : List (B × Value)} (h : MapAt w b n l) {t e : TypeId} (ht : Tryz.prog.underlying t = some (.map 9 e)) {s : ByteArray} (hs : s.size ≤ maxLen) (ty : TypeId) :
    ∃ w', (Builtin.delete_ #[t, 9] ty #[.map (some b), .string s]).run Tryz.prog w = .ok (.tuple #[]) w' ∧ MapAt w' b n (adel l s.data.toList) ∧ w.mapTurned w' b := by
  obtain ⟨w', h1, h2, h3⟩ := World.ownsMap.drop h law9 ht (keyOf9 hs) ty
  rw [mapD_del] at h2
  exact ⟨w', h1, h2, h3⟩

theorem mapD_keys (l : List (B × Value)) : strKeys (mapD l) = l.map (·.1) := by
  simp [strKeys, mapD, ent, strOf]

/-- A list's permutation, sorted, is the list if it rises. -/
theorem sort_keys {V : Type} {l : List (B × V)} (h : Srt l) {ss : List B} (hp : ss.Perm (l.map (·.1))) : ss.mergeSort leB = l.map (·.1) := by
  have htot : ∀ a b : B, (leB a b || leB b a) = true := fun a b => by
    simp only [leB, Bool.or_eq_true, decide_eq_true_eq]
    exact List.le_total a b
  have htr : ∀ a b c : B, leB a b = true → leB b c = true → leB a c = true := fun a b c h1 h2 => by
    simp only [leB, decide_eq_true_eq] at h1 h2 ⊢
    exact List.le_trans h1 h2
  have h1 : (ss.mergeSort leB).Pairwise (fun a b => leB a b = true) := List.pairwise_mergeSort htr htot ss
  have h2 : (l.map (·.1)).Pairwise (fun a b => leB a b = true) := by
    rw [List.pairwise_map]
    refine h.imp fun {a b} hab => ?_
    simp only [leB, decide_eq_true_eq]
    exact List.le_of_lt ((bb_lt _ _).1 hab)
  refine List.Perm.eq_of_pairwise (le := fun a b => leB a b = true) (fun a b _ _ hab hba => ?_) h1 h2 ((List.mergeSort_perm ss leB).trans hp)
  simp only [leB, decide_eq_true_eq] at hab hba
  exact List.le_antisymm hab hba

end Go.Proofs.YtflioeiklcnncaaGreatDoor.Ri

set_option linter.unusedVariables false
set_option linter.unusedSimpArgs false
namespace Go.Proofs.YtflioeiklcnncaaGreatDoor.Ri
open Go.RowKit Go.Maps Go.Sort Go.Proofs.YtflioeiklcnncaaGreatDoorW.PrintWords Go.Proofs.YtflioeiklcnncaaGreatDoor.PRing

def bz (s : ByteArray) : B := s.data.toList
def mkS (k : B) : ByteArray := ⟨k.toArray⟩
theorem bz_mkS (k : B) : bz (mkS k) = k := by simp [bz, mkS]
theorem mkS_bz (s : ByteArray) : mkS (bz s) = s := by cases s; simp [bz, mkS]
theorem mkS_inj {a b : B} (h : mkS a = mkS b) : a = b := by rw [← bz_mkS a, h, bz_mkS]
def ints (b : B) : List Int := b.map fun x => (x.toNat : Int)
theorem ints_length (b : B) : (ints b).length = b.length := by simp [ints]
theorem ints_inj {a b : B} (h : ints a = ints b) : a = b := by
  have : ∀ (a b : B), ints a = ints b → a = b := by
    intro a
    induction a with
    | nil => intro b h; cases b with
      | nil => rfl
      | cons => simp [ints] at h
    | cons x r ih => intro b h; cases b with
      | nil => simp [ints] at h
      | cons y s =>
        simp only [ints, List.map_cons, List.cons.injEq] at h
        have hxy : x.toNat = y.toNat := by omega
        rw [ih s h.2, UInt8.toNat_inj.1 hxy]
  exact this a b h

structure St where
  P : List (B × B)
  G : List (B × List B)
def there (s : St) (k : B) : Bool := ahas s.P k || ahas s.G k

/-- A slice value that reads as these bytes (texts, people, groups), which lie in ok. -/
def Bts (W : World) (ok : Nat → Prop) (v : Value) (b : B) : Prop := Kd.V (Kd.int .u8) 0 W 0 ok v (ints b)
def Strs (W : World) (ok : Nat → Prop) (v : Value) (b : List B) : Prop := Kd.V Kd.string 0 W 0 ok v (b.map mkS)

/-- Nothing has changed but blocks of S. -/
structure Turn (S : Nat → Prop) (w w' : World) : Prop where
  os : w'.os = w.os
  tape : w'.tape = w.tape
  output : w'.output = w.output
  size : w.heap.size ≤ w'.heap.size
  block : ∀ k, k < w.heap.size → ¬ S k → w'.heap[k]? = w.heap[k]?
theorem Turn.refl (S : Nat → Prop) (w : World) : Turn S w w := ⟨rfl, rfl, rfl, Nat.le_refl _, fun _ _ _ => rfl⟩
theorem Turn.trans {S : Nat → Prop} {a b c : World} (h : Turn S a b) (k : Turn S b c) : Turn S a c :=
  ⟨k.os.trans h.os, k.tape.trans h.tape, k.output.trans h.output, Nat.le_trans h.size k.size, fun i hi hs => (k.block i (Nat.lt_of_lt_of_le hi h.size) hs).trans (h.block i hi hs)⟩
theorem Turn.mono {S T : Nat → Prop} {a b : World} (h : Turn S a b) (hS : ∀ k, S k → T k) : Turn T a b := ⟨h.os, h.tape, h.output, h.size, fun i hi hs => h.block i hi (fun k => hs (hS i k))⟩
theorem Turn.of_below {S : Nat → Prop} {a b : World} (h : Below a.heap.size a b) : Turn S a b := ⟨h.os, h.tape, h.output, h.size, fun i hi _ => h.block i hi⟩
theorem Turn.of_belowN {S : Nat → Prop} {a b : World} {n : Nat} (h : Below n a b) (hn : ∀ k, n ≤ k → k < a.heap.size → S k) : Turn S a b :=
  ⟨h.os, h.tape, h.output, h.size, fun i hi hs => h.block i (by
    by_cases hin : i < n
    · exact hin
    · exact absurd (hn i (by omega) hi) hs)⟩
theorem Turn.of_map {a b : World} {g : Nat} (h : a.mapTurned b g) : Turn (· = g) a b := by
  have hg := h.grown
  exact ⟨hg.os, hg.tape, hg.output, hg.size, fun i hi hs => hg.block i hi (fun e => hs (Option.some.inj e))⟩
theorem Turn.of_set (w : World) (p : Addr) (u : Value) : Turn (· = p.block) w (w.setCell p u) :=
  ⟨rfl, rfl, rfl, by simp [World.setCell], fun i _ hs => Below.heap_setCell w p u i hs⟩
theorem Turn.below {S : Nat → Prop} {a b : World} {n : Nat} (h : Turn S a b) (hS : ∀ k, S k → n ≤ k) (hn : n ≤ a.heap.size) : Below n a b :=
  ⟨h.os, h.tape, h.output, h.size, fun i hi => h.block i (by omega) (fun hs => by have := hS i hs; omega)⟩
theorem Turn.V {α : Type} {d : Kd α} {S ok : Nat → Prop} {a b : World} {e base : Nat} {v : Value} {xs : List α} (h : Turn S a b) (hv : Kd.V d e a base ok v xs) (hok : ∀ k, ok k → ¬ S k) : Kd.V d e b base ok v xs :=
  Kd.V_step hv (fun k hk hlt => h.block k hlt (hok k hk))
theorem Turn.cell {S : Nat → Prop} {a b : World} (h : Turn S a b) {p : Addr} {v : Value} (hp : a.cell? p = some v) (hS : ¬ S p.block) : b.cell? p = some v := by
  have hlt := World.block_lt_of_cell? a p hp
  have := h.block _ hlt hS
  simpa [World.cell?, this] using hp
theorem Turn.map {S : Nat → Prop} {a b : World} (h : Turn S a b) {g n : Nat} {l : List (B × Value)} (hm : MapAt a g n l) (hS : ¬ S g) : MapAt b g n l :=
  hm.move (h.block _ hm.lt hS)

structure RingAt (W : World) (ok : Nat → Prop) (r bp bg : Nat) (s : St) : Prop where
  c0 : W.cell? ⟨r, 0, none⟩ = some (.map (some bp))
  c1 : W.cell? ⟨r, 1, none⟩ = some (.map (some bg))
  rok : ok r
  bne : bp ≠ bg
  pok : ¬ ok bp
  gok : ¬ ok bg
  pm : ∃ f : B → Value, MapAt W bp s.P.length (s.P.map fun p => (p.1, f p.1)) ∧ ∀ p ∈ s.P, Bts W ok (f p.1) p.2
  gm : ∃ f : B → Value, MapAt W bg s.G.length (s.G.map fun p => (p.1, f p.1)) ∧ ∀ p ∈ s.G, Strs W ok (f p.1) p.2
theorem RingAt.turn {S ok : Nat → Prop} {W W' : World} {r bp bg : Nat} {s : St} (h : RingAt W ok r bp bg s) (ht : Turn S W W') (hS : ∀ k, S k → ¬ ok k ∧ k ≠ bp ∧ k ≠ bg) : RingAt W' ok r bp bg s := by
  have hr : ¬ S r := fun e => (hS r e).1 h.rok
  obtain ⟨f, hf, hfp⟩ := h.pm
  obtain ⟨g, hg, hgp⟩ := h.gm
  exact ⟨ht.cell h.c0 hr, ht.cell h.c1 hr, h.rok, h.bne, h.pok, h.gok, ⟨f, ht.map hf (fun e => (hS _ e).2.1 rfl), fun p hp => ht.V (hfp p hp) (fun k hk e => (hS k e).1 hk)⟩,
    ⟨g, ht.map hg (fun e => (hS _ e).2.2 rfl), fun p hp => ht.V (hgp p hp) (fun k hk e => (hS k e).1 hk)⟩⟩
theorem RingAt.below {ok : Nat → Prop} {W W' : World} {r bp bg : Nat} {s : St} (h : RingAt W ok r bp bg s) (hb : Below W.heap.size W W') : RingAt W' ok r bp bg s :=
  h.turn (S := fun _ => False) (.of_below hb) (fun _ k => k.elim)

theorem ahas_map {V : Type} (l : List (B × V)) (f : B → Value) (k : B) : ahas (l.map fun p => (p.1, f p.1)) k = ahas l k := by
  simp [ahas, List.any_map, Function.comp_def]
theorem alook_map {V : Type} (l : List (B × V)) (f : B → Value) (k : B) (h : ahas l k = true) : alook (l.map fun p => (p.1, f p.1)) k = some (f k) := by
  simp only [alook, List.find?_map]
  have e : ((fun p : B × Value => p.1 == k) ∘ fun p : B × V => (p.1, f p.1)) = fun p : B × V => p.1 == k := rfl
  rw [e]
  cases hf : l.find? (fun p => p.1 == k) with
  | none =>
    rw [List.find?_eq_none] at hf
    simp only [ahas, List.any_eq_true] at h
    obtain ⟨p, hp, hk⟩ := h
    exact absurd hk (hf p hp)
  | some p =>
    have := List.find?_some hf
    simp only [beq_iff_eq] at this
    simp [this]
theorem z24 (w : World) : (zeroValue 24).run Tryz.prog w = .ok (.slice none 0 0) w := by kernel_rfl
theorem z23 (w : World) : (zeroValue 23).run Tryz.prog w = .ok (.slice none 0 0) w := by kernel_rfl

set_option maxHeartbeats 400000 in
theorem there_calls {W : World} {ok : Nat → Prop} {r bp bg : Nat} {s : St} (h : RingAt W ok r bp bg s) (nm : ByteArray) (hn : nm.size ≤ maxLen) :
    Calls Tryz.prog 31 #[.pointer (some ⟨r, 0, none⟩), .string nm] W fun e w' => e = .returned (.bool (there s (bz nm))) ∧ W = w' := by
  obtain ⟨c0, c1, -, -, -, -, ⟨f, hp, -⟩, ⟨g, hg, -⟩⟩ := h
  have l1 := hp.look Tryz.underlying58 (z24 W) hn
  have l2 := hg.look Tryz.underlying59 (z23 W) hn
  rw [ahas_map] at l1 l2
  have e : there s (bz nm) = (ahas s.P nm.data.toList || ahas s.G nm.data.toList) := rfl
  rw [e]
  generalize ahas s.P nm.data.toList = x at *
  generalize ahas s.G nm.data.toList = y at *
  clear e hp hg hn
  cases x <;> cases y
  all_goals
    go_enter Tryz.func31, Tryz.ntmps31
    go_wp2
    go_ret
    exact ⟨rfl, rfl⟩

/-! ### the library -/
theorem V_of_own {α : Type} {enc : α → Value} {h1 : ∀ x, (enc x).oneCell' = true} {e base : Nat} {w : World} {v : Value} {xs : List α} (h : w.ownsRow base e 1 v xs.length (encs enc xs)) :
    Kd.V (Kd.scalar enc h1) 0 w 0 (fun k => base ≤ k) v xs := by
  obtain ⟨A, c, he, hl, hf⟩ := Kd.R_V (base' := 0) (Kd.R_of_own (h1 := h1) (ok := fun k => base ≤ k) h (fun k hk => own_base h k hk))
  exact ⟨A, c, he, hl, hf⟩

theorem clone_bytes {W : World} {ok : Nat → Prop} {v : Value} {b : B} (hv : Bts W ok v b) (hl : b.length ≤ 140737488355328) :
    Calls Tryz.prog 46 #[v] W fun e w' => ∃ v', e = .returned v' ∧ Bts w' (fun k => W.heap.size ≤ k) v' b ∧ Below W.heap.size W w' := by
  obtain ⟨A, c, rfl, hc, hf⟩ := hv
  rw [ints_length] at hc hf ⊢
  cases A with
  | none =>
    have h0 : b.length = 0 := by
      rcases Nat.eq_zero_or_pos b.length with h | h
      · exact h
      · obtain ⟨ad, e, _⟩ := (Kd.F_now hf).2.2 h
        cases e
    have hb : b = [] := List.eq_nil_of_length_eq_zero h0
    subst hb
    exact (Any.bytes_Clone_nil Tryz.lays4 0 c W).mono fun e w' ⟨he, hw⟩ => ⟨_, he, hw ▸ Kd.V_nil _ _ _ _ _, hw ▸ Below.refl _ _⟩
  | some a =>
    have hcells : ∀ i, i < b.length → W.cell? (a.add i) = some (.int .u8 ((ints b).getD i 0)) := fun i hi => by
      have := Kd.foot_int (Kd.F_now hf) (i : Int) (by omega) (by omega)
      simpa [YtflioeiklcnncaaGreatDoorW.PrintWords.rd] using this
    refine (Any.bytes_Clone_at Tryz.lays4 a b.length c (ints b) W (ints_length b) hl hcells).mono fun e w' ⟨v', he, hown, _, hb⟩ => ⟨v', he, ?_, hb⟩
    have hown' : w'.ownsRow W.heap.size 5 1 v' (ints b).length (encs (Value.int .u8) (ints b)) := by rw [ints_length]; exact hown
    exact V_of_own hown'

theorem clone_strs {W : World} {ok : Nat → Prop} {v : Value} {b : List B} (hv : Strs W ok v b) (hl : b.length * 16 ≤ 140737488355328) :
    Calls Tryz.prog 44 #[v] W fun e w' => ∃ v', e = .returned v' ∧ Strs w' (fun k => W.heap.size ≤ k) v' b ∧ Below W.heap.size W w' := by
  obtain ⟨A, c, rfl, hc, hf⟩ := hv
  have hlen : (b.map mkS).length = b.length := by simp
  rw [hlen] at hc hf ⊢
  cases A with
  | none =>
    have h0 : b.length = 0 := by
      rcases Nat.eq_zero_or_pos b.length with h | h
      · exact h
      · obtain ⟨ad, e, _⟩ := (Kd.F_now hf).2.2 h
        cases e
    have hb : b = [] := List.eq_nil_of_length_eq_zero h0
    subst hb
    exact (Any.slices_Clone_string_nil Tryz.laysNm216 0 c W).mono fun e w' ⟨he, hw⟩ => ⟨_, he, hw ▸ Kd.V_nil _ _ _ _ _, hw ▸ Below.refl _ _⟩
  | some a =>
    rcases Nat.eq_zero_or_pos b.length with h0 | h0
    · have hb : b = [] := List.eq_nil_of_length_eq_zero h0
      subst hb
      refine (Any.slices_Clone_string_zero Tryz.laysNm216 a c W).mono fun e w' ⟨v', he, hown, _, hb⟩ => ⟨v', he, ?_, hb⟩
      have hown' : w'.ownsRow W.heap.size 9 1 v' ([] : List ByteArray).length (encs Value.string []) := hown
      exact V_of_own hown'
    · have hcell : ∀ i, i < b.length → W.cell? (a.add i) = some (.string ((b.map mkS).getD i ByteArray.empty)) := fun i hi => by
        have := Kd.foot_string (Kd.F_now hf) (i : Int) (by omega) (by omega)
        simpa [rdOf] using this
      obtain ⟨ab, ao, asp⟩ := a
      have hsp : asp = none := by
        have h1 := hcell 0 h0
        cases asp with
        | none => rfl
        | some x => simp [World.cell?, Addr.add] at h1; split at h1 <;> simp_all
      subst hsp
      have hcell' : ∀ j, j < (b.map mkS).length → W.cell? ⟨ab, ao + j, none⟩ = some (.string ((b.map mkS).getD j ByteArray.empty)) := fun j hj => by
        have h1 := hcell j (by simpa using hj)
        have ha : (⟨ab, ao, none⟩ : Addr).add j = ⟨ab, ao + j, none⟩ := by unfold Addr.add; split <;> simp_all
        rwa [ha] at h1
      refine (Any.slices_Clone_string Tryz.laysNm216 ab ao b.length c (b.map mkS) W (by simp) hl hcell').mono fun e w' ⟨v', he, hown, _, hb⟩ => ⟨v', he, ?_, hb⟩
      have ht : (b.map mkS).take b.length = b.map mkS := List.take_of_length_le (by simp)
      rw [ht] at hown
      have hown' : w'.ownsRow W.heap.size 9 1 v' (b.map mkS).length (encs Value.string (b.map mkS)) := by rw [hlen]; exact hown
      exact V_of_own hown'

theorem keys45 (bp : Nat) (W : World) : Calls Tryz.prog 45 #[.map (some bp)] W fun e w' => e = .returned (.func (.func 64) #[] #[.pointer (some ⟨W.heap.size, 0, none⟩)]) ∧ w' = W.alloc (.cells #[.map (some bp)] 58) :=
  callsIn_wide.1 (Tryz.maps_Keys_45 (some bp) W)
theorem keys43 (bp : Nat) (W : World) : Calls Tryz.prog 43 #[.map (some bp)] W fun e w' => e = .returned (.func (.func 63) #[] #[.pointer (some ⟨W.heap.size, 0, none⟩)]) ∧ w' = W.alloc (.cells #[.map (some bp)] 59) :=
  callsIn_wide.1 (Tryz.maps_Keys_43 (some bp) W)
theorem keys33 (bp : Nat) (W : World) : Calls Tryz.prog 33 #[.map (some bp)] W fun e w' => e = .returned (.func (.func 59) #[] #[.pointer (some ⟨W.heap.size, 0, none⟩)]) ∧ w' = W.alloc (.cells #[.map (some bp)] 63) :=
  callsIn_wide.1 (Tryz.maps_Keys_33 (some bp) W)

def Sorted1 (W : World) (ks : List B) (e : Ending) (w' : World) : Prop :=
  ∃ v, e = .returned v ∧ Kd.V Kd.string 0 w' 0 (fun k => W.heap.size ≤ k) v (ks.map mkS) ∧ Below W.heap.size W w'
theorem sorted_of {W w' : World} {l : List (B × Value)} (hs : Srt l) {e : Ending} (h : ∃ (v : Value) (ss : List (List UInt8)), e = .returned v ∧ ss.Perm (strKeys (mapD l)) ∧
      w'.ownsRow W.heap.size 9 1 v ss.length ((ss.mergeSort (fun x y => decide (x ≤ y))).map encStr) ∧ (v = .slice none 0 0 ↔ ss = []) ∧ Below W.heap.size W w') : Sorted1 W (l.map (·.1)) e w' := by
  obtain ⟨v, ss, rfl, hp, ho, _, hb⟩ := h
  refine ⟨v, rfl, ?_, hb⟩
  rw [mapD_keys] at hp
  have e := sort_keys hs hp
  have hl : ss.length = ((l.map (·.1)).map mkS).length := by rw [hp.length_eq, List.length_map]; simp
  have hc : (ss.mergeSort (fun x y => decide (x ≤ y))).map encStr = encs Value.string ((l.map (·.1)).map mkS) := by
    rw [show ss.mergeSort (fun x y => decide (x ≤ y)) = l.map (·.1) from e]
    simp [encs, mkS]
  rw [hc, hl] at ho
  exact V_of_own ho
theorem sorted45 {W : World} {bp n : Nat} {l : List (B × Value)} (h : MapAt W bp n l) (hl : l.length ≤ 1000) :
    Calls Tryz.prog 32 #[.func (.func 64) #[] #[.pointer (some ⟨W.heap.size, 0, none⟩)]] (W.alloc (.cells #[.map (some bp)] 58)) (Sorted1 (W.alloc (.cells #[.map (some bp)] 58)) (l.map (·.1))) :=
  (callsIn_wide.1 (Tryz.slices_Sorted_keys_32_45 bp n (mapD l) raw W h (by rw [mapD_size]; unfold maxLen; omega) (by rw [mapD_size]; omega))).mono fun e w' hh => sorted_of h.srt hh
theorem sorted43 {W : World} {bp n : Nat} {l : List (B × Value)} (h : MapAt W bp n l) (hl : l.length ≤ 1000) :
    Calls Tryz.prog 32 #[.func (.func 63) #[] #[.pointer (some ⟨W.heap.size, 0, none⟩)]] (W.alloc (.cells #[.map (some bp)] 59)) (Sorted1 (W.alloc (.cells #[.map (some bp)] 59)) (l.map (·.1))) :=
  (callsIn_wide.1 (Tryz.slices_Sorted_keys_32_43 bp n (mapD l) raw W h (by rw [mapD_size]; unfold maxLen; omega) (by rw [mapD_size]; omega))).mono fun e w' hh => sorted_of h.srt hh
theorem sorted33 {W : World} {bp n : Nat} {l : List (B × Value)} (h : MapAt W bp n l) (hl : l.length ≤ 1000000000) :
    Calls Tryz.prog 32 #[.func (.func 59) #[] #[.pointer (some ⟨W.heap.size, 0, none⟩)]] (W.alloc (.cells #[.map (some bp)] 63)) (Sorted1 (W.alloc (.cells #[.map (some bp)] 63)) (l.map (·.1))) :=
  (callsIn_wide.1 (Tryz.slices_Sorted_keys_32_33 bp n (mapD l) raw W h (by rw [mapD_size]; unfold maxLen; omega) (by rw [mapD_size]; omega))).mono fun e w' hh => sorted_of h.srt hh
end Go.Proofs.YtflioeiklcnncaaGreatDoor.Ri

set_option linter.unusedVariables false
set_option linter.unusedSimpArgs false
namespace Go.Proofs.YtflioeiklcnncaaGreatDoor.Ri
open Go.RowKit Go.Maps Go.Sort Go.Proofs.YtflioeiklcnncaaGreatDoorW.PrintWords Go.Proofs.YtflioeiklcnncaaGreatDoor.PRing

def person (p : B × B) : S50 := ⟨mkS p.1, ints p.2⟩
def Ppl (W : World) (ok : Nat → Prop) (v : Value) (l : List (B × B)) : Prop := Kd.V k50 0 W 0 ok v (l.map person)

theorem info50 : (Tryz.prog.info? 50).map (fun i => (i.zero, i.size, i.bytes)) = some (some (.agg #[.string ⟨#[]⟩, .slice none 0 0]), 2, 40) := by kernel_rfl
def Stop (p : Prop) : Prop := p
theorem stop_at {p : Prop} (h : Stop p) : p := h
theorem below_up {B : Nat} {a b c : World} (h : Below B a b) (k : Below b.heap.size b c) (hB : B ≤ b.heap.size) : Below B a c := h.trans (k.mono hB)
theorem str_at {w : World} {ok : Nat → Prop} {A : Option Addr} {l : List B} (h : Kd.F Kd.string w ok A l.length (l.map mkS)) {k : Nat} (hk : k < l.length) : ∃ ad, A = some ad ∧ w.cell? (ad.add k) = some (.string (mkS l[k])) := by
  obtain ⟨ad, e, hc⟩ := Kd.at_string (Kd.F_now h) (k : Int) (by omega) (by omega)
  refine ⟨ad, e, ?_⟩
  simpa [rdOf, hk] using hc
theorem N_lt_own {α : Type} {d : Kd α} {e base : Nat} {w : World} {ok : Nat → Prop} {v : Value} {xs : List α} (h : Kd.N d e w base ok v xs) (k : Nat) (hk : w.heap.size ≤ k) : some k ≠ v.ownBlock := fun e => by
  have := Kd.N_lt h k e.symm
  omega
theorem mkS_size (k : B) : (mkS k).size = k.length := by simp [mkS, ByteArray.size]
theorem take_map_snoc {α β : Type} (f : α → β) (l : List α) (k : Nat) (h : k < l.length) : (l.take (k + 1)).map f = (l.take k).map f ++ [f l[k]] := by
  rw [List.take_succ_eq_append_getElem h, List.map_append]; rfl

set_option maxRecDepth 100000 in
set_option maxHeartbeats 400000 in
theorem People_calls {W : World} {ok : Nat → Prop} {r bp bg : Nat} {s : St} (h : RingAt W ok r bp bg s) (hP : s.P.length ≤ 1000) (hsz : ∀ p ∈ s.P, p.1.length ≤ 1000 ∧ p.2.length ≤ 1000) :
    Calls Tryz.prog 20 #[.pointer (some ⟨r, 0, none⟩)] W fun e w' => ∃ v, e = .returned v ∧ Ppl w' (fun k => W.heap.size ≤ k) v s.P ∧ Below W.heap.size W w' := by
  obtain ⟨f, hp, hpv⟩ := h.pm
  have c0 := h.c0
  have HP := Aside0.mk hp
  have HV := Aside0.mk hpv
  have HS := Aside0.mk hsz
  clear hp hpv hsz
  go_enter Tryz.func20, Tryz.ntmps20
  go_wp2_with fail
  refine (keys45 bp W).mono ?_
  rintro e w1 ⟨rfl, rfl⟩
  go_wp2_with fail
  refine (sorted45 HP.out (by simpa using hP)).mono ?_
  rintro e w1 ⟨v, rfl, hv, hb⟩
  obtain ⟨A, c, rfl, hc, hf⟩ := hv
  have hlen : ((List.map (fun x => x.fst) (List.map (fun p => (p.fst, f p.fst)) s.P)).map mkS).length = s.P.length := by simp
  rw [hlen] at hc hf ⊢
  clear hlen
  go_wp2_with fail
  have hB1 : Below W.heap.size W w1 := ((Below.refl _ W).alloc (Nat.le_refl _) _).trans (hb.mono (by simp))
  have HB1 := Aside0.mk hB1
  have HR := Aside0.mk (h.below hB1)
  have HM := Aside0.mk ((Turn.of_below (S := fun _ => False) hB1).map HP.out (fun h => h))
  have HV1 := Aside0.mk (show ∀ p ∈ s.P, Bts w1 ok (f p.1) p.2 from fun p hp => Kd.V_below (HV.out p hp) hB1)
  have HF := Aside0.mk hf
  clear hf hb h hB1 HP HV
  go_loopw [13, 3] (fun i v wr => ∃ k : Nat, k ≤ s.P.length ∧ i = .int .i64 k ∧ Kd.N k50 50 wr w1.heap.size (fun b => w1.heap.size ≤ b) v ((s.P.take k).map person) ∧ Below w1.heap.size w1 wr) (fun i _ _ => s.P.length - (intOf i).toNat)
  case atStart => exact ⟨0, Nat.zero_le _, rfl, Kd.N_nil _ _ _ _ _, Below.refl _ _⟩
  case round =>
    obtain ⟨k, hk, rfl, hN, hbr⟩ := hrel
    have HN := Aside0.mk hN
    have HBR := Aside0.mk hbr
    by_cases hlt : k < s.P.length
    · obtain ⟨nm, hnm⟩ : ∃ nm, nm = s.P[k].1 := ⟨_, rfl⟩
      have hcell : ∃ ad, A = some ad ∧ wr.cell? (ad.add k) = some (.string (mkS nm)) := by
        have := str_at (l := List.map (fun x => x.fst) (List.map (fun p => (p.fst, f p.fst)) s.P)) (by simpa using Kd.F_below HF.out hbr) (k := k) (by simpa using hlt)
        simpa [hnm] using this
      obtain ⟨ad, rfl, hcell⟩ := hcell
      have c0' := (HR.out.below hbr).c0
      have hmem : s.P[k] ∈ s.P := List.getElem_mem hlt
      have hsz := HS.out _ hmem
      have l1 : (Instr.lookup 58 (.map (some bp)) (.string (mkS nm)) false).run Tryz.prog wr = .ok (f nm) wr := by
        have hm := (Turn.of_below (S := fun _ => False) hbr).map HM.out (fun h => h)
        have := hm.look1 Tryz.underlying58 (z24 wr) (s := mkS nm) (by rw [mkS_size, hnm]; unfold maxLen; omega)
        rw [show (mkS nm).data.toList = nm by simp [mkS], alook_map _ _ _ (by simp only [ahas, List.any_eq_true]; exact ⟨_, hmem, by simp [hnm]⟩)] at this
        exact this
      have hcl := clone_bytes (W := wr) (ok := ok) (v := f nm) (b := s.P[k].2) (by rw [hnm]; exact Kd.V_below (HV1.out _ hmem) hbr) (by omega)
      have HNM := Aside0.mk hnm
      have HCL := Aside0.mk hcl
      clear hnm hN hbr hmem hsz hcl
      go_wp2_with fail
      refine HCL.out.mono ?_
      rintro e w2 ⟨v', rfl, hv', hb2⟩
      obtain ⟨A', c', rfl, hc', hf'⟩ := hv'
      have HF' := Aside0.mk hf'
      have HB2 := Aside0.mk hb2
      clear hf' hb2 HCL
      have HBR2 := Aside0.mk (below_up HBR.out HB2.out HBR.out.size)
      go_wp2_with (at_builtin; refine stop_at ?_)
      unfold Stop
      refine Kd.N_append k50 (w0 := w1) w1.heap.size rfl _ _ 30 50 _ 40 rfl Tryz.underlying30 info50 rfl (by decide) (by decide) _ ((s.P.take k).map person) (person s.P[k]) [.string (mkS nm), .slice A' (ints s.P[k].2).length c'] (fun b => w1.heap.size ≤ b) (fun b => wr.heap.size ≤ b) rfl rfl ?hp ?hok ?fresh ?HO ?HB ?hbase ?hl ?_
      case hp => rw [HNM.out]; exact k50_mkF w2 _ (person s.P[k]) hc' HF'.out
      case hok => exact fun b hb => ⟨Nat.le_trans HBR.out.size hb, N_lt_own HN.out b hb⟩
      case fresh => exact fun b hb => Nat.le_trans HBR2.out.size hb
      case HO => exact Kd.N_below HN.out HB2.out
      case HB => exact HBR2.out
      case hbase => exact HBR2.out.size
      case hl => simp; omega
      intro v1 w3 hN3 hB3 hg3 hat3
      have HN3 := Aside0.mk hN3
      have HB3 := Aside0.mk hB3
      clear hN3 hB3 hg3 hat3
      go_wp2_with fail
      exact ⟨⟨k + 1, by omega, by go_num, by rw [take_map_snoc _ _ _ hlt]; exact HN3.out, HB3.out⟩, by simp [intOf]; omega⟩
    · obtain rfl : k = s.P.length := by omega
      go_wp2
      go_ret
      have hV := Kd.N_V (base' := 0) HN.out
      rw [List.take_length] at hV
      obtain ⟨A2, c2, e2, hl2, hf2⟩ := hV
      exact ⟨_, rfl, ⟨A2, c2, e2, hl2, Kd.F_mono hf2 (fun b hb => Nat.le_trans HB1.out.size hb)⟩, HB1.out.trans (HBR.out.mono HB1.out.size)⟩

def group (p : B × List B) : S46 := ⟨mkS p.1, p.2.map mkS⟩
def Grps (W : World) (ok : Nat → Prop) (v : Value) (l : List (B × List B)) : Prop := Kd.V k46 0 W 0 ok v (l.map group)
theorem info46 : (Tryz.prog.info? 46).map (fun i => (i.zero, i.size, i.bytes)) = some (some (.agg #[.string ⟨#[]⟩, .slice none 0 0]), 2, 40) := by kernel_rfl
set_option maxRecDepth 100000 in
set_option maxHeartbeats 400000 in
theorem Groups_calls {W : World} {ok : Nat → Prop} {r bp bg : Nat} {s : St} (h : RingAt W ok r bp bg s) (hG : s.G.length ≤ 1000) (hsz : ∀ p ∈ s.G, p.1.length ≤ 1000 ∧ p.2.length ≤ 1000) :
    Calls Tryz.prog 18 #[.pointer (some ⟨r, 0, none⟩)] W fun e w' => ∃ v, e = .returned v ∧ Grps w' (fun k => W.heap.size ≤ k) v s.G ∧ Below W.heap.size W w' := by
  obtain ⟨f, hp, hpv⟩ := h.gm
  have c1 := h.c1
  have HP := Aside0.mk hp
  have HV := Aside0.mk hpv
  have HS := Aside0.mk hsz
  clear hp hpv hsz
  go_enter Tryz.func18, Tryz.ntmps18
  go_wp2_with fail
  refine (keys43 bg W).mono ?_
  rintro e w1 ⟨rfl, rfl⟩
  go_wp2_with fail
  refine (sorted43 HP.out (by simpa using hG)).mono ?_
  rintro e w1 ⟨v, rfl, hv, hb⟩
  obtain ⟨A, c, rfl, hc, hf⟩ := hv
  have hlen : ((List.map (fun x => x.fst) (List.map (fun p => (p.fst, f p.fst)) s.G)).map mkS).length = s.G.length := by simp
  rw [hlen] at hc hf ⊢
  clear hlen
  go_wp2_with fail
  have hB1 : Below W.heap.size W w1 := ((Below.refl _ W).alloc (Nat.le_refl _) _).trans (hb.mono (by simp))
  have HB1 := Aside0.mk hB1
  have HR := Aside0.mk (h.below hB1)
  have HM := Aside0.mk ((Turn.of_below (S := fun _ => False) hB1).map HP.out (fun h => h))
  have HV1 := Aside0.mk (show ∀ p ∈ s.G, Strs w1 ok (f p.1) p.2 from fun p hp => Kd.V_below (HV.out p hp) hB1)
  have HF := Aside0.mk hf
  clear hf hb h hB1 HP HV
  go_loopw [13, 3] (fun i v wr => ∃ k : Nat, k ≤ s.G.length ∧ i = .int .i64 k ∧ Kd.N k46 46 wr w1.heap.size (fun b => w1.heap.size ≤ b) v ((s.G.take k).map group) ∧ Below w1.heap.size w1 wr) (fun i _ _ => s.G.length - (intOf i).toNat)
  case atStart => exact ⟨0, Nat.zero_le _, rfl, Kd.N_nil _ _ _ _ _, Below.refl _ _⟩
  case round =>
    obtain ⟨k, hk, rfl, hN, hbr⟩ := hrel
    have HN := Aside0.mk hN
    have HBR := Aside0.mk hbr
    by_cases hlt : k < s.G.length
    · obtain ⟨nm, hnm⟩ : ∃ nm, nm = s.G[k].1 := ⟨_, rfl⟩
      have hcell : ∃ ad, A = some ad ∧ wr.cell? (ad.add k) = some (.string (mkS nm)) := by
        have := str_at (l := List.map (fun x => x.fst) (List.map (fun p => (p.fst, f p.fst)) s.G)) (by simpa using Kd.F_below HF.out hbr) (k := k) (by simpa using hlt)
        simpa [hnm] using this
      obtain ⟨ad, rfl, hcell⟩ := hcell
      have c0' := (HR.out.below hbr).c1
      have hmem : s.G[k] ∈ s.G := List.getElem_mem hlt
      have hsz := HS.out _ hmem
      have l1 : (Instr.lookup 59 (.map (some bg)) (.string (mkS nm)) false).run Tryz.prog wr = .ok (f nm) wr := by
        have hm := (Turn.of_below (S := fun _ => False) hbr).map HM.out (fun h => h)
        have := hm.look1 Tryz.underlying59 (z23 wr) (s := mkS nm) (by rw [mkS_size, hnm]; unfold maxLen; omega)
        rw [show (mkS nm).data.toList = nm by simp [mkS], alook_map _ _ _ (by simp only [ahas, List.any_eq_true]; exact ⟨_, hmem, by simp [hnm]⟩)] at this
        exact this
      have hcl := clone_strs (W := wr) (ok := ok) (v := f nm) (b := s.G[k].2) (by rw [hnm]; exact Kd.V_below (HV1.out _ hmem) hbr) (by omega)
      have HNM := Aside0.mk hnm
      have HCL := Aside0.mk hcl
      clear hnm hN hbr hmem hsz hcl
      go_wp2_with fail
      refine HCL.out.mono ?_
      rintro e w2 ⟨v', rfl, hv', hb2⟩
      obtain ⟨A', c', rfl, hc', hf'⟩ := hv'
      have HF' := Aside0.mk hf'
      have HB2 := Aside0.mk hb2
      clear hf' hb2 HCL
      have HBR2 := Aside0.mk (below_up HBR.out HB2.out HBR.out.size)
      go_wp2_with (at_builtin; refine stop_at ?_)
      unfold Stop
      refine Kd.N_append k46 (w0 := w1) w1.heap.size rfl _ _ 31 46 _ 40 rfl Tryz.underlying31 info46 rfl (by decide) (by decide) _ ((s.G.take k).map group) (group s.G[k]) [.string (mkS nm), .slice A' s.G[k].2.length c'] (fun b => w1.heap.size ≤ b) (fun b => wr.heap.size ≤ b) rfl rfl ?hp ?hok ?fresh ?HO ?HB ?hbase ?hl ?_
      case hp => rw [HNM.out]; have h46 := k46_mkF w2 _ (group s.G[k]) hc' HF'.out; simpa [group] using h46
      case hok => exact fun b hb => ⟨Nat.le_trans HBR.out.size hb, N_lt_own HN.out b hb⟩
      case fresh => exact fun b hb => Nat.le_trans HBR2.out.size hb
      case HO => exact Kd.N_below HN.out HB2.out
      case HB => exact HBR2.out
      case hbase => exact HBR2.out.size
      case hl => simp; omega
      intro v1 w3 hN3 hB3 hg3 hat3
      have HN3 := Aside0.mk hN3
      have HB3 := Aside0.mk hB3
      clear hN3 hB3 hg3 hat3
      go_wp2_with fail
      exact ⟨⟨k + 1, by omega, by go_num, by rw [take_map_snoc _ _ _ hlt]; exact HN3.out, HB3.out⟩, by simp [intOf]; omega⟩
    · obtain rfl : k = s.G.length := by omega
      go_wp2
      go_ret
      have hV := Kd.N_V (base' := 0) HN.out
      rw [List.take_length] at hV
      obtain ⟨A2, c2, e2, hl2, hf2⟩ := hV
      exact ⟨_, rfl, ⟨A2, c2, e2, hl2, Kd.F_mono hf2 (fun b hb => Nat.le_trans HB1.out.size hb)⟩, HB1.out.trans (HBR.out.mono HB1.out.size)⟩
end Go.Proofs.YtflioeiklcnncaaGreatDoor.Ri

set_option linter.unusedVariables false
set_option linter.unusedSimpArgs false
namespace Go.Proofs.YtflioeiklcnncaaGreatDoor.Ri
open Go.RowKit Go.Maps Go.Sort Go.Proofs.YtflioeiklcnncaaGreatDoorW.PrintWords Go.Proofs.YtflioeiklcnncaaGreatDoor.PRing

theorem wr1 {i n : Nat} (h : i < n) (hn : n ≤ 9223372036854775807) : wrap64 ((i : Int) + 1) = ((i + 1 : Nat) : Int) := by unfold wrap64; omega
theorem rd_at {l : List Int} {i : Nat} (h : i < l.length) : YtflioeiklcnncaaGreatDoorW.PrintWords.rd l (i : Int) = l[i] := by
  simp [YtflioeiklcnncaaGreatDoorW.PrintWords.rd, h]
theorem rdS_at {l : List ByteArray} {i : Nat} (h : i < l.length) : rdOf ByteArray.empty l (i : Int) = l[i] := by simp [rdOf, h]
theorem toList_inj {a b : ByteArray} : a.toList = b.toList ↔ a = b := by
  constructor
  · intro h
    rw [ByteArray.toList_eq, ByteArray.toList_eq] at h
    exact WideShapes.bytes_inj h
  · rintro rfl; rfl
theorem drop_eq_iff {α : Type} {a b : List α} {i : Nat} (ha : i < a.length) (hb : i < b.length) : a.drop i = b.drop i ↔ a[i] = b[i] ∧ a.drop (i + 1) = b.drop (i + 1) := by
  rw [List.drop_eq_getElem_cons ha, List.drop_eq_getElem_cons hb, List.cons.injEq]

theorem Equal_l0 (a b : List Int) (hab : a.length = b.length) (hn : a.length ≤ 9223372036854775807) : ∀ d i k : Nat, i + d = a.length → d < k → orlopref01_Equal.l0 k a b i = some (decide (a.drop i = b.drop i)) := by
  intro d
  induction d with
  | zero =>
    intro i k hi hk
    obtain ⟨k, rfl⟩ : ∃ m, k = m + 1 := ⟨k - 1, by omega⟩
    simp only [orlopref01_Equal.l0]
    rw [if_neg (by omega), List.drop_eq_nil_of_le (by omega), List.drop_eq_nil_of_le (by omega)]
    simp
  | succ d ih =>
    intro i k hi hk
    obtain ⟨k, rfl⟩ : ∃ m, k = m + 1 := ⟨k - 1, by omega⟩
    have ha : i < a.length := by omega
    have hb : i < b.length := by omega
    simp only [orlopref01_Equal.l0]
    rw [if_pos (by omega), if_pos (by omega), if_pos (by omega), rd_at ha, rd_at hb, wr1 ha hn]
    by_cases he : a[i] = b[i]
    · rw [if_pos he, ih (i + 1) k (by omega) (by omega)]
      simp [drop_eq_iff ha hb, he]
    · rw [if_neg he]
      simp [drop_eq_iff ha hb, he]
theorem Equal_f (a b : List Int) (ha : a.length ≤ 9223372036854775807) {k : Nat} (hk : a.length < k) : orlopref01_Equal.f k a b = some (decide (a = b)) := by
  unfold orlopref01_Equal.f
  by_cases h : a.length = b.length
  · rw [if_pos (by omega), show (0 : Int) = ((0 : Nat) : Int) from rfl, Equal_l0 a b h ha a.length 0 k (by omega) hk]
    simp
  · rw [if_neg (by omega)]
    have : a ≠ b := fun e => h (by rw [e])
    simp [this]
theorem ints_eq (a b : B) : decide (ints a = ints b) = decide (a = b) := by
  by_cases h : a = b
  · subst h; simp
  · have : ints a ≠ ints b := fun e => h (ints_inj e)
    simp [h, this]
theorem Bts.C {W : World} {ok : Nat → Prop} {v : Value} {b : B} (h : Bts W ok v b) : ∃ A c, v = .slice A (ints b).length c ∧ (ints b).length ≤ c ∧ (Kd.int .u8).C W A (ints b).length (ints b) := by
  obtain ⟨A, c, e, hl, hf⟩ := h
  exact ⟨A, c, e, hl, Kd.F_now hf⟩
theorem Strs.C {W : World} {ok : Nat → Prop} {v : Value} {b : List B} (h : Strs W ok v b) : ∃ A c, v = .slice A (b.map mkS).length c ∧ (b.map mkS).length ≤ c ∧ Kd.string.C W A (b.map mkS).length (b.map mkS) := by
  obtain ⟨A, c, e, hl, hf⟩ := h
  exact ⟨A, c, e, hl, Kd.F_now hf⟩
theorem eq21 {W : World} {ok ok' : Nat → Prop} {v v' : Value} {a b : B} (h : Bts W ok v a) (h' : Bts W ok' v' b) :
    Calls Tryz.prog 21 #[v, v'] W fun e w' => e = .returned (.bool (decide (a = b))) ∧ Drawn0 W w' := by
  obtain ⟨A, c, rfl, hl, hc⟩ := h.C
  obtain ⟨A', c', rfl, hl', hc'⟩ := h'.C
  exact orlopref01_Equal.calls _ A c (ints a) A' c' (ints b) _ W hc hl hc' hl' (by rw [Equal_f (ints a) (ints b) hc.2.1 (Nat.lt_succ_self _), ints_eq])
theorem beq_of_data {a b : B} : ((strOfNums (ints a)).toList == (strOfNums (ints b)).toList) = decide (a = b) := by
  have : ∀ x : B, (strOfNums (ints x)).toList = x := by
    intro x
    rw [ByteArray.toList_eq]
    simp only [strOfNums, ints, List.map_map]
    induction x with
    | nil => rfl
    | cons y r ih => simp_all
  rw [this, this]
  by_cases h : a = b <;> simp [h]
theorem eq42 {W : World} {ok ok' : Nat → Prop} {v v' : Value} {a b : B} (h : Bts W ok v a) (h' : Bts W ok' v' b) :
    Calls Tryz.prog 42 #[v, v'] W fun e w' => e = .returned (.bool (decide (a = b))) ∧ Drawn0 W w' := by
  obtain ⟨A, c, rfl, hl, hc⟩ := h.C
  obtain ⟨A', c', rfl, hl', hc'⟩ := h'.C
  exact bytes_Equal.calls A c (ints a) A' c' (ints b) _ W hc hl hc' hl' (by unfold bytes_Equal.f; rw [beq_of_data])

/-! texts -/
theorem Texts_l0 (a b : List ByteArray) (hab : a.length = b.length) (hn : a.length ≤ 9223372036854775807) : ∀ d i k : Nat, i + d = a.length → d < k → orlopref28_Texts.l0 k a b i = some (decide (a.drop i = b.drop i)) := by
  intro d
  induction d with
  | zero =>
    intro i k hi hk
    obtain ⟨k, rfl⟩ : ∃ m, k = m + 1 := ⟨k - 1, by omega⟩
    simp only [orlopref28_Texts.l0]
    rw [if_neg (by omega), List.drop_eq_nil_of_le (by omega), List.drop_eq_nil_of_le (by omega)]
    simp
  | succ d ih =>
    intro i k hi hk
    obtain ⟨k, rfl⟩ : ∃ m, k = m + 1 := ⟨k - 1, by omega⟩
    have ha : i < a.length := by omega
    have hb : i < b.length := by omega
    simp only [orlopref28_Texts.l0]
    rw [if_pos (by omega), if_pos (by omega), if_pos (by omega), rdS_at ha, rdS_at hb, wr1 ha hn]
    by_cases he : a[i] = b[i]
    · rw [if_pos (toList_inj.2 he), ih (i + 1) k (by omega) (by omega)]
      simp [drop_eq_iff ha hb, he]
    · rw [if_neg (fun e => he (toList_inj.1 e))]
      simp [drop_eq_iff ha hb, he]
theorem map_mkS_inj {a b : List B} (h : a.map mkS = b.map mkS) : a = b := by
  have : (a.map mkS).map bz = (b.map mkS).map bz := by rw [h]
  simpa [List.map_map, Function.comp_def, bz_mkS] using this
theorem texts13 {W : World} {ok ok' : Nat → Prop} {v v' : Value} {a b : List B} (h : Strs W ok v a) (h' : Strs W ok' v' b) :
    Calls Tryz.prog 13 #[v, v'] W fun e w' => e = .returned (.bool (decide (a = b))) ∧ Drawn0 W w' := by
  obtain ⟨A, c, rfl, hl, hc⟩ := h.C
  obtain ⟨A', c', rfl, hl', hc'⟩ := h'.C
  refine orlopref28_Texts.calls ((a.map mkS).length + 1) A c (a.map mkS) A' c' (b.map mkS) _ W hc hl hc' hl' ?_
  unfold orlopref28_Texts.f
  by_cases hn : a.length = b.length
  · rw [if_pos (by simp; omega), show (0 : Int) = ((0 : Nat) : Int) from rfl, Texts_l0 _ _ (by simpa using hn) hc.2.1 (a.map mkS).length 0 _ (by omega) (by omega)]
    simp only [List.drop_zero, Option.some.injEq, decide_eq_decide]
    exact ⟨map_mkS_inj, fun e => by rw [e]⟩
  · rw [if_neg (by simp; omega)]
    have : a ≠ b := fun e => hn (by rw [e])
    simp [this]

theorem In_l0 (a : List ByteArray) (x : ByteArray) (hn : a.length ≤ 9223372036854775807) : ∀ d i k : Nat, i + d = a.length → d < k → ∃ r : Bool, orlopref28_In.l0 k a x i = some r ∧ (r = true ↔ x ∈ a.drop i) := by
  intro d
  induction d with
  | zero =>
    intro i k hi hk
    obtain ⟨k, rfl⟩ : ∃ m, k = m + 1 := ⟨k - 1, by omega⟩
    simp only [orlopref28_In.l0]
    rw [if_neg (by omega), List.drop_eq_nil_of_le (by omega)]
    exact ⟨false, rfl, by simp⟩
  | succ d ih =>
    intro i k hi hk
    obtain ⟨k, rfl⟩ : ∃ m, k = m + 1 := ⟨k - 1, by omega⟩
    have ha : i < a.length := by omega
    simp only [orlopref28_In.l0]
    rw [if_pos (by omega), if_pos (by omega), rdS_at ha, wr1 ha hn, List.drop_eq_getElem_cons ha]
    by_cases he : a[i] = x
    · rw [if_pos (toList_inj.2 he)]; exact ⟨true, rfl, by simp [he]⟩
    · rw [if_neg (fun e => he (toList_inj.1 e))]
      obtain ⟨r, hr, hd⟩ := ih (i + 1) k (by omega) (by omega)
      have : x ≠ a[i] := fun e => he e.symm
      exact ⟨r, hr, by rw [hd, List.mem_cons]; simp only [this, false_or]⟩
theorem mem_mkS {l : List B} {x : ByteArray} : x ∈ l.map mkS ↔ bz x ∈ l := by
  rw [List.mem_map]
  constructor
  · rintro ⟨y, hy, rfl⟩; rwa [bz_mkS]
  · intro h; exact ⟨_, h, mkS_bz x⟩
theorem in19 {W : World} {ok : Nat → Prop} {v : Value} {l : List B} (h : Strs W ok v l) (x : ByteArray) :
    Calls Tryz.prog 19 #[v, .string x] W fun e w' => e = .returned (.bool (decide (bz x ∈ l))) ∧ Drawn0 W w' := by
  obtain ⟨A, c, rfl, hl, hc⟩ := h.C
  obtain ⟨j, hj, hd⟩ := In_l0 (l.map mkS) x hc.2.1 (l.map mkS).length 0 ((l.map mkS).length + 1) (by omega) (by omega)
  refine orlopref28_In.calls ((l.map mkS).length + 1) A c (l.map mkS) x _ W hc hl ?_
  unfold orlopref28_In.f
  rw [show (0 : Int) = ((0 : Nat) : Int) from rfl, hj]
  rw [List.drop_zero, mem_mkS] at hd
  simp only [Option.some.injEq]
  rw [Bool.eq_iff_iff, hd, decide_eq_true_eq]
theorem Index_l0 (a : List ByteArray) (x : ByteArray) (hn : a.length ≤ 9223372036854775807) : ∀ d i k : Nat, i + d = a.length → d < k → ∃ j : Int, slices_Index_string_string.l0 k a x (a.length : Int) i = some j ∧ (0 ≤ j ↔ x ∈ a.drop i) := by
  intro d
  induction d with
  | zero =>
    intro i k hi hk
    obtain ⟨k, rfl⟩ : ∃ m, k = m + 1 := ⟨k - 1, by omega⟩
    refine ⟨-1, ?_, ?_⟩
    · simp only [slices_Index_string_string.l0]
      rw [if_neg (by omega)]
    · rw [List.drop_eq_nil_of_le (by omega)]; simp
  | succ d ih =>
    intro i k hi hk
    obtain ⟨k, rfl⟩ : ∃ m, k = m + 1 := ⟨k - 1, by omega⟩
    have ha : i < a.length := by omega
    simp only [slices_Index_string_string.l0]
    rw [if_pos (by omega), if_pos (by omega), if_pos (by omega), rdS_at ha, wr1 ha hn, List.drop_eq_getElem_cons ha]
    by_cases he : x = a[i]
    · rw [if_pos (toList_inj.2 he)]
      exact ⟨i, rfl, by rw [List.mem_cons]; exact ⟨fun _ => .inl he, fun _ => by omega⟩⟩
    · rw [if_neg (fun e => he (toList_inj.1 e))]
      obtain ⟨j, hj, hd⟩ := ih (i + 1) k (by omega) (by omega)
      exact ⟨j, hj, by rw [hd, List.mem_cons]; simp only [he, false_or]⟩
theorem contains47 {W : World} {ok : Nat → Prop} {v : Value} {l : List B} (h : Strs W ok v l) (x : ByteArray) :
    Calls Tryz.prog 47 #[v, .string x] W fun e w' => e = .returned (.bool (decide (bz x ∈ l))) ∧ Drawn0 W w' := by
  obtain ⟨A, c, rfl, hl, hc⟩ := h.C
  refine slices_Contains_string_string.calls ((l.map mkS).length + 1) A c (l.map mkS) x _ W hc hl ?_
  obtain ⟨j, hj, hd⟩ := Index_l0 (l.map mkS) x hc.2.1 (l.map mkS).length 0 ((l.map mkS).length + 1) (by omega) (by omega)
  unfold slices_Contains_string_string.f slices_Index_string_string.f
  rw [show (0 : Int) = ((0 : Nat) : Int) from rfl, hj]
  rw [List.drop_zero, mem_mkS] at hd
  simp only [Option.bind_some, Option.some.injEq, decide_eq_decide]
  exact hd
end Go.Proofs.YtflioeiklcnncaaGreatDoor.Ri

set_option linter.unusedVariables false
set_option linter.unusedSimpArgs false
namespace Go.Proofs.YtflioeiklcnncaaGreatDoor.Ri
open Go.RowKit Go.Maps Go.Sort Go.Proofs.YtflioeiklcnncaaGreatDoorW.PrintWords Go.Proofs.YtflioeiklcnncaaGreatDoor.PRing

theorem bz_length (x : ByteArray) : (bz x).length = x.size := by unfold bz; exact Array.length_toList
theorem bt_bz {x : ByteArray} {i : Nat} (h : i < (bz x).length) : bt x (i : Int) = ((bz x)[i].toNat : Int) := by
  have h' : i < x.size := by rwa [bz_length] at h
  unfold bt
  rw [dif_pos (by simpa using h')]
  simp [bz]
  rfl

/-! less on texts -/
theorem bb_cons (a b : UInt8) (r s : B) : bytesBefore (a :: r) (b :: s) = (decide (a < b) || (a == b && bytesBefore r s)) := rfl
theorem bb_nil_l (b : B) : bytesBefore [] b = decide (0 < b.length) := by cases b <;> rfl
theorem bb_nil_r (a : B) : bytesBefore a [] = false := by cases a <;> rfl
theorem Less_l0 (x y : ByteArray) (hx : x.size ≤ 9223372036854775807) : ∀ d i k : Nat, i + d = (bz x).length → i ≤ (bz y).length → 2 * d + 1 < k → orlopref11_Less.l0 k x y i = some (bytesBefore ((bz x).drop i) ((bz y).drop i)) := by
  intro d
  induction d with
  | zero =>
    intro i k hi hiy hk
    obtain ⟨k, rfl⟩ : ∃ m, k = m + 2 := ⟨k - 2, by omega⟩
    have e : ((bz x).length : Int) = x.size := by rw [bz_length]
    have e' : ((bz y).length : Int) = y.size := by rw [bz_length]
    simp only [orlopref11_Less.l0, orlopref11_Less.j1]
    rw [if_neg (by omega), if_neg (by simp), List.drop_eq_nil_of_le (by omega), bb_nil_l, List.length_drop]
    simp only [Option.some.injEq, decide_eq_decide]
    omega
  | succ d ih =>
    intro i k hi hiy hk
    obtain ⟨k, rfl⟩ : ∃ m, k = m + 2 := ⟨k - 2, by omega⟩
    have e : ((bz x).length : Int) = x.size := by rw [bz_length]
    have e' : ((bz y).length : Int) = y.size := by rw [bz_length]
    have ha : i < (bz x).length := by omega
    simp only [orlopref11_Less.l0, orlopref11_Less.j1]
    rw [if_pos (by omega)]
    by_cases hb : i < (bz y).length
    · rw [if_pos (by simp; omega), if_pos (by omega), if_pos (by omega), if_pos (by omega), bt_bz ha, bt_bz hb, wr1 (show i < x.size by omega) hx, List.drop_eq_getElem_cons ha, List.drop_eq_getElem_cons hb, bb_cons]
      by_cases he : (bz x)[i] = (bz y)[i]
      · rw [if_pos (by rw [he]), ih (i + 1) k (by omega) (by omega) (by omega)]
        simp [he]
      · rw [if_neg (fun h => he (UInt8.toNat_inj.1 (by omega)))]
        have : ((bz x)[i] == (bz y)[i]) = false := by simpa using he
        simp only [this, Bool.false_and, Bool.or_false, Option.some.injEq, decide_eq_decide]
        rw [UInt8.lt_iff_toNat_lt]
        omega
    · rw [if_neg (by simp; omega), show (bz y).drop i = [] from List.drop_eq_nil_of_le (by omega), bb_nil_r]
      simp
      omega
theorem less56 (x y : ByteArray) (hx : x.size ≤ 9223372036854775807) (W : World) :
    Calls Tryz.prog 56 #[.string x, .string y] W fun e w' => e = .returned (.bool (bytesBefore (bz x) (bz y))) ∧ Drawn0 W w' := by
  refine orlopref11_Less.calls (2 * (bz x).length + 2) x y _ W ?_
  unfold orlopref11_Less.f
  rw [show (0 : Int) = ((0 : Nat) : Int) from rfl, Less_l0 x y hx (bz x).length 0 _ (by omega) (by omega) (by omega)]
  simp

/-! less on rows of bytes -/
theorem rd_ints {a : B} {i : Nat} (h : i < a.length) : YtflioeiklcnncaaGreatDoorW.PrintWords.rd (ints a) (i : Int) = (a[i].toNat : Int) := by
  rw [rd_at (by rwa [ints_length])]
  simp [ints]
theorem lessI_l0 (x y : B) (hx : x.length ≤ 9223372036854775807) : ∀ d i k : Nat, i + d = x.length → i ≤ y.length → 2 * d + 1 < k → orlopref23_less.l0 k (ints x) (ints y) i = some (bytesBefore (x.drop i) (y.drop i)) := by
  intro d
  induction d with
  | zero =>
    intro i k hi hiy hk
    obtain ⟨k, rfl⟩ : ∃ m, k = m + 2 := ⟨k - 2, by omega⟩
    simp only [orlopref23_less.l0, orlopref23_less.j1, ints_length]
    rw [if_neg (by omega), if_neg (by simp), List.drop_eq_nil_of_le (by omega), bb_nil_l, List.length_drop]
    simp only [Option.some.injEq, decide_eq_decide]
    omega
  | succ d ih =>
    intro i k hi hiy hk
    obtain ⟨k, rfl⟩ : ∃ m, k = m + 2 := ⟨k - 2, by omega⟩
    have ha : i < x.length := by omega
    simp only [orlopref23_less.l0, orlopref23_less.j1, ints_length]
    rw [if_pos (by omega)]
    by_cases hb : i < y.length
    · rw [if_pos (by simp; omega), if_pos (by omega), if_pos (by omega), if_pos (by omega), rd_ints ha, rd_ints hb, wr1 ha hx, List.drop_eq_getElem_cons ha, List.drop_eq_getElem_cons hb, bb_cons]
      by_cases he : x[i] = y[i]
      · rw [if_pos (by rw [he]), ih (i + 1) k (by omega) (by omega) (by omega)]
        simp [he]
      · rw [if_neg (fun h => he (UInt8.toNat_inj.1 (by omega)))]
        have : (x[i] == y[i]) = false := by simpa using he
        simp only [this, Bool.false_and, Bool.or_false, Option.some.injEq, decide_eq_decide]
        rw [UInt8.lt_iff_toNat_lt]
        omega
    · rw [if_neg (by simp; omega), show y.drop i = [] from List.drop_eq_nil_of_le (by omega), bb_nil_r]
      simp
      omega
theorem less60 {W : World} {ok ok' : Nat → Prop} {v v' : Value} {a b : B} (h : Bts W ok v a) (h' : Bts W ok' v' b) :
    Calls Tryz.prog 60 #[v, v'] W fun e w' => e = .returned (.bool (bytesBefore a b)) ∧ Drawn0 W w' := by
  obtain ⟨A, c, rfl, hl, hc⟩ := h.C
  obtain ⟨A', c', rfl, hl', hc'⟩ := h'.C
  refine orlopref23_less.calls (2 * a.length + 2) A c (ints a) A' c' (ints b) _ W hc hl hc' hl' ?_
  unfold orlopref23_less.f
  have := hc.2.1
  rw [ints_length] at this
  rw [show (0 : Int) = ((0 : Nat) : Int) from rfl, lessI_l0 a b this a.length 0 _ (by omega) (by omega) (by omega)]
  simp

/-! a name -/
def nameB (c : UInt8) : Bool := decide (97 ≤ c.toNat ∧ c.toNat ≤ 122) || decide (48 ≤ c.toNat ∧ c.toNat ≤ 57) || decide (c.toNat = 45)
def nameOK (k : B) : Bool := k.all nameB && decide (1 ≤ k.length) && decide (k.length ≤ 40)
theorem Name_l0 (x : ByteArray) (hx : x.size ≤ 9223372036854775807) : ∀ d i k : Nat, i + d = (bz x).length → d < k → orlopref28_Name.l0 k x i = some (((bz x).drop i).all nameB && decide (1 ≤ (bz x).length) && decide ((bz x).length ≤ 40)) := by
  intro d
  induction d with
  | zero =>
    intro i k hi hk
    obtain ⟨k, rfl⟩ : ∃ m, k = m + 1 := ⟨k - 1, by omega⟩
    have e : ((bz x).length : Int) = x.size := by rw [bz_length]
    simp only [orlopref28_Name.l0]
    rw [if_neg (by omega), List.drop_eq_nil_of_le (by omega)]
    by_cases h1 : (x.size : Int) ≥ 1
    · rw [if_pos h1]
      have : decide (1 ≤ (bz x).length) = true := decide_eq_true (by omega)
      simp only [this, List.all_nil, Bool.true_and, Option.some.injEq, decide_eq_decide]
      omega
    · rw [if_neg h1]
      have : decide (1 ≤ (bz x).length) = false := decide_eq_false (by omega)
      simp only [this, List.all_nil, Bool.true_and, Bool.false_and]
  | succ d ih =>
    intro i k hi hk
    obtain ⟨k, rfl⟩ : ∃ m, k = m + 1 := ⟨k - 1, by omega⟩
    have e : ((bz x).length : Int) = x.size := by rw [bz_length]
    have ha : i < (bz x).length := by omega
    have hb := bt_bz ha
    have IH := ih (i + 1) k (by omega) (by omega)
    rw [List.drop_eq_getElem_cons ha, List.all_cons]
    simp only [orlopref28_Name.l0]
    rw [if_pos (by omega), if_pos (by omega), wr1 (show i < x.size by omega) hx, IH]
    generalize bt x (i : Int) = c at *
    by_cases hn : nameB (bz x)[i] = true
    · simp only [hn, Bool.true_and]
      simp only [nameB, Bool.or_eq_true, decide_eq_true_eq] at hn
      repeat' (first | rfl | split | omega)
      all_goals first | rfl | (exfalso; omega)
    · simp only [Bool.not_eq_true] at hn
      simp only [hn, Bool.false_and]
      simp only [nameB, Bool.or_eq_false_iff, decide_eq_false_iff_not] at hn
      repeat' (first | rfl | split | omega)
      all_goals first | rfl | (exfalso; omega)
theorem name55 (x : ByteArray) (hx : x.size ≤ 9223372036854775807) (W : World) :
    Calls Tryz.prog 55 #[.string x] W fun e w' => e = .returned (.bool (nameOK (bz x))) ∧ Drawn0 W w' := by
  refine orlopref28_Name.calls ((bz x).length + 1) x _ W ?_
  unfold orlopref28_Name.f
  rw [show (0 : Int) = ((0 : Nat) : Int) from rfl, Name_l0 x hx (bz x).length 0 _ (by omega) (by omega)]
  rfl

/-! rows of bytes -/
def Rws (W : World) (ok : Nat → Prop) (v : Value) (l : List B) : Prop := Kd.V (Kd.slice 5 (Kd.int .u8)) 0 W 0 ok v (l.map ints)
theorem Rows_l0 (a b : List B) (hab : a.length = b.length) (hn : a.length ≤ 9223372036854775807) (M : Nat) (hM : ∀ x ∈ a, x.length ≤ 9223372036854775807 ∧ x.length < M) : ∀ d i k : Nat, i + d = a.length → d + M < k → orlopref24_Rows.l0 k (a.map ints) (b.map ints) i = some (decide (a.drop i = b.drop i)) := by
  intro d
  induction d with
  | zero =>
    intro i k hi hk
    obtain ⟨k, rfl⟩ : ∃ m, k = m + 1 := ⟨k - 1, by omega⟩
    simp only [orlopref24_Rows.l0, List.length_map]
    rw [if_neg (by omega), List.drop_eq_nil_of_le (by omega), List.drop_eq_nil_of_le (by omega)]
    simp
  | succ d ih =>
    intro i k hi hk
    obtain ⟨k, rfl⟩ : ∃ m, k = m + 1 := ⟨k - 1, by omega⟩
    have ha : i < a.length := by omega
    have hb : i < b.length := by omega
    have hMi := hM a[i] (List.getElem_mem ha)
    have r1 : rd_L1 (a.map ints) (i : Int) = ints a[i] := by simp [rd_L1, ha]
    have r2 : rd_L1 (b.map ints) (i : Int) = ints b[i] := by simp [rd_L1, hb]
    simp only [orlopref24_Rows.l0, List.length_map]
    rw [if_pos (by omega), if_pos (by omega), if_pos (by omega), r1, r2, Equal_f _ _ (by rw [ints_length]; exact hMi.1) (by rw [ints_length]; omega), ints_eq, wr1 ha hn]
    simp only [Option.bind_some, decide_eq_true_eq]
    by_cases he : a[i] = b[i]
    · rw [if_pos he, ih (i + 1) k (by omega) (by omega)]
      simp [drop_eq_iff ha hb, he]
    · rw [if_neg he]
      simp [drop_eq_iff ha hb, he]
theorem rows12 {W : World} {ok ok' : Nat → Prop} {v v' : Value} {a b : List B} (h : Rws W ok v a) (h' : Rws W ok' v' b) (M : Nat) (hM : ∀ x ∈ a, x.length ≤ 9223372036854775807 ∧ x.length < M) :
    Calls Tryz.prog 12 #[v, v'] W fun e w' => e = .returned (.bool (decide (a = b))) ∧ Drawn0 W w' := by
  obtain ⟨A, c, rfl, hl, hf⟩ := h
  obtain ⟨A', c', rfl, hl', hf'⟩ := h'
  have hc := Kd.F_now hf
  refine orlopref24_Rows.calls (a.length + M + 1) A c (a.map ints) A' c' (b.map ints) _ W hc hl (Kd.F_now hf') hl' ?_
  unfold orlopref24_Rows.f
  have hn := hc.2.1
  rw [List.length_map] at hn
  by_cases he : a.length = b.length
  · rw [if_pos (by simp; omega), show (0 : Int) = ((0 : Nat) : Int) from rfl, Rows_l0 a b he hn M hM a.length 0 _ (by omega) (by omega)]
    simp
  · rw [if_neg (by simp; omega)]
    have : a ≠ b := fun e => he (by rw [e])
    simp [this]

/-! small steps -/
def goodStep (x : S57) : Prop := x.f1.size ≤ 200 ∧ x.f2.length ≤ 100 ∧ x.f3.length ≤ 50 ∧ ∀ m ∈ x.f3, m.size ≤ 200
theorem small_l1 (x : List S57) (i : Nat) (hi : i < x.length) (hn : x.length ≤ 9223372036854775807) (P : Bool → Prop)
    (hnext : ∃ K r, ∀ k, K ≤ k → orloplaw28_small.l0 k x ((i + 1 : Nat) : Int) = some r ∧ P r) (hf : P false) (h50 : x[i].f3.length ≤ 50) :
    ∀ d m : Nat, m + d = x[i].f3.length → ∃ K r, ∀ k, K ≤ k → orloplaw28_small.l1 k x i m = some r ∧ P r ∧ (r = true → ∀ y ∈ x[i].f3.drop m, y.size ≤ 200) := by
  have r1 : rd_T57 x (i : Int) = x[i] := by simp [rd_T57, hi]
  intro d
  induction d with
  | zero =>
    intro m hm
    obtain ⟨K, r, hK⟩ := hnext
    refine ⟨K + 1, r, fun k hk => ?_⟩
    obtain ⟨k, rfl⟩ : ∃ m, k = m + 1 := ⟨k - 1, by omega⟩
    obtain ⟨h1, h2⟩ := hK k (by omega)
    simp only [orloplaw28_small.l1, r1]
    rw [if_pos (by omega), if_pos (by omega), if_neg (by omega), wr1 hi hn]
    exact ⟨h1, h2, fun _ y hy => by rw [List.drop_eq_nil_of_le (by omega)] at hy; simp at hy⟩
  | succ d ih =>
    intro m hm
    have hmlt : m < x[i].f3.length := by omega
    by_cases hs : (x[i].f3[m].size : Int) > 200
    · refine ⟨1, false, fun k hk => ?_⟩
      obtain ⟨k, rfl⟩ : ∃ m, k = m + 1 := ⟨k - 1, by omega⟩
      simp only [orloplaw28_small.l1, r1]
      rw [if_pos (by omega), if_pos (by omega), if_pos (by omega), if_pos (by omega), rdS_at hmlt, if_pos hs]
      exact ⟨rfl, hf, fun h => by cases h⟩
    · obtain ⟨K, r, hK⟩ := ih (m + 1) (by omega)
      refine ⟨K + 1, r, fun k hk => ?_⟩
      obtain ⟨k, rfl⟩ : ∃ m, k = m + 1 := ⟨k - 1, by omega⟩
      obtain ⟨h1, h2, h3⟩ := hK k (by omega)
      simp only [orloplaw28_small.l1, r1]
      rw [if_pos (by omega), if_pos (by omega), if_pos (by omega), if_pos (by omega), rdS_at hmlt, if_neg hs, wr1 hmlt (by omega)]
      refine ⟨h1, h2, fun hr y hy => ?_⟩
      rw [List.drop_eq_getElem_cons hmlt] at hy
      rcases List.mem_cons.1 hy with rfl | hy
      · omega
      · exact h3 hr y hy
theorem small_l0 (x : List S57) (hn : x.length ≤ 9223372036854775807) :
    ∀ d i : Nat, i + d = min x.length 80 → ∃ K r, ∀ k, K ≤ k → orloplaw28_small.l0 k x i = some r ∧ (r = true → ∀ j, i ≤ j → ∀ h : j < x.length, j < 80 → goodStep x[j]) := by
  intro d
  induction d with
  | zero =>
    intro i hi
    refine ⟨2, true, fun k hk => ?_⟩
    obtain ⟨k, rfl⟩ : ∃ m, k = m + 2 := ⟨k - 2, by omega⟩
    refine ⟨?_, fun _ j hj h h8 => by omega⟩
    simp only [orloplaw28_small.l0, orloplaw28_small.j1]
    by_cases h : i < x.length
    · rw [if_pos (by omega), if_neg (by simp; omega)]
    · rw [if_neg (by omega)]; simp
  | succ d ih =>
    intro i hi
    have hlt : i < x.length := by omega
    have h8 : i < 80 := by omega
    have r1 : rd_T57 x (i : Int) = x[i] := by simp [rd_T57, hlt]
    have hd : decide ((i : Int) < 80) = true := by simp; omega
    by_cases hbad : (x[i].f1.size : Int) > 200 ∨ (x[i].f2.length : Int) > 100 ∨ (x[i].f3.length : Int) > 50
    · refine ⟨3, false, fun k hk => ?_⟩
      obtain ⟨k, rfl⟩ : ∃ m, k = m + 3 := ⟨k - 3, by omega⟩
      refine ⟨?_, fun h => by cases h⟩
      simp only [orloplaw28_small.l0, orloplaw28_small.j1, orloplaw28_small.j2, r1, hd]
      rw [if_pos (by omega), if_pos trivial, if_pos (by omega), if_pos (by omega)]
      by_cases h1 : (x[i].f1.size : Int) > 200
      · rw [if_pos h1]; simp
      · rw [if_neg h1]
        by_cases h2 : (x[i].f2.length : Int) > 100
        · rw [if_pos h2]; simp
        · rw [if_neg h2]
          have h3 : decide ((x[i].f3.length : Int) > 50) = true := by simp; omega
          rw [h3]; simp
    · have h50 : x[i].f3.length ≤ 50 := by omega
      obtain ⟨K0, r0, h0⟩ := ih (i + 1) (by omega)
      obtain ⟨K, r, hK⟩ := small_l1 x i hlt hn (fun r => r = true → ∀ j, i + 1 ≤ j → ∀ h : j < x.length, j < 80 → goodStep x[j]) ⟨K0, r0, h0⟩ (fun h => by cases h) h50 x[i].f3.length 0 (by omega)
      refine ⟨K + 3, r, fun k hk => ?_⟩
      obtain ⟨k, rfl⟩ : ∃ m, k = m + 3 := ⟨k - 3, by omega⟩
      obtain ⟨h1, h2, h3⟩ := hK k (by omega)
      constructor
      · simp only [orloplaw28_small.l0, orloplaw28_small.j1, orloplaw28_small.j2, r1, hd]
        have h5 : decide ((x[i].f3.length : Int) > 50) = false := by simp; omega
        rw [if_pos (by omega), if_pos trivial, if_pos (by omega), if_pos (by omega), if_neg (by omega), if_neg (by omega), h5, if_neg (by simp)]
        exact h1
      · intro hr j hj h hj8
        rcases Nat.eq_or_lt_of_le hj with rfl | hj
        · exact ⟨by omega, by omega, h50, fun y hy => h3 hr y (by simpa using hy)⟩
        · exact h2 hr j (by omega) h hj8
def Small7 (l : List S57) (W : World) (e : Ending) (w' : World) : Prop := ∃ r : Bool, e = .returned (.bool r) ∧ Drawn0 W w' ∧ (r = true → ∀ j, ∀ h : j < l.length, j < 80 → goodStep l[j])
theorem small7 {W : World} {A : Option Addr} {c : Nat} {l : List S57} (h : Kd.C k57 W A l.length l) (hc : l.length ≤ c) :
    Calls Tryz.prog 7 #[.slice A l.length c] W (Small7 l W) := by
  obtain ⟨K, r, hK⟩ := small_l0 l h.2.1 (min l.length 80) 0 (by omega)
  obtain ⟨h1, h2⟩ := hK K (Nat.le_refl _)
  refine (orloplaw28_small.calls K A c l r W h hc (by unfold orloplaw28_small.f; exact h1)).mono fun e w' ⟨he, hw⟩ => ⟨r, he, hw, fun hr j hj h8 => h2 hr j (by omega) hj h8⟩
end Go.Proofs.YtflioeiklcnncaaGreatDoor.Ri

set_option linter.unusedVariables false
set_option linter.unusedSimpArgs false
namespace Go.Proofs.YtflioeiklcnncaaGreatDoor.Ri
open Go.RowKit Go.Maps Go.Sort Go.Proofs.YtflioeiklcnncaaGreatDoorW.PrintWords Go.Proofs.YtflioeiklcnncaaGreatDoor.PRing

/-- Whose point: the first of the people. -/
def who (s : St) (p : B) : B := ((s.P.find? fun q => decide (q.2 = p)).map (·.1)).getD []

theorem ppl_at {W : World} {ok : Nat → Prop} {A : Option Addr} {l : List (B × B)} (h : Kd.F k50 W ok A (l.map person).length (l.map person)) {k : Nat} (hk : k < l.length) :
    ∃ ad A1 c1, A = some ad ∧ W.cell? (ad.add (k * 2)) = some (.string (mkS l[k].1)) ∧ W.cell? ⟨(ad.add (k * 2)).block, (ad.add (k * 2)).off + 1, none⟩ = some (.slice A1 (ints l[k].2).length c1) ∧ Bts W ok (.slice A1 (ints l[k].2).length c1) l[k].2 := by
  obtain ⟨ad, c, e, _, hK, hc, _⟩ := Kd.F_get h z50 (k : Int) (by omega) (by simp; omega)
  obtain ⟨A1, c1, rfl, l1, g1⟩ := k50_openF hK
  have e1 : (l.map person).getD ((k : Int).toNat) z50 = person l[k] := by simp [hk]
  rw [e1] at l1 g1 hc
  refine ⟨ad, A1, c1, e, ?_, ?_, A1, c1, rfl, l1, g1⟩
  · exact hc 0 _ rfl
  · rw [← add_field _ _ 1 (by omega)]; exact hc 1 _ rfl

set_option maxRecDepth 100000 in
set_option maxHeartbeats 400000 in
theorem Who_calls {W : World} {ok ok' : Nat → Prop} {r bp bg : Nat} {s : St} (h : RingAt W ok r bp bg s) (hP : s.P.length ≤ 1000) (hsz : ∀ p ∈ s.P, p.1.length ≤ 1000 ∧ p.2.length ≤ 1000)
    {pv : Value} {p : B} (hp : Bts W ok' pv p) :
    Calls Tryz.prog 16 #[.pointer (some ⟨r, 0, none⟩), pv] W fun e w' => e = .returned (.string (mkS (who s p))) ∧ Below W.heap.size W w' := by
  obtain ⟨Ap, cp, rfl, hlp, hfp⟩ := hp
  have HPL := Aside0.mk (People_calls h hP hsz)
  have HPV := Aside0.mk hfp
  clear hfp hsz
  go_enter Tryz.func16, Tryz.ntmps16
  go_wp2_with fail
  refine HPL.out.mono ?_
  rintro e w1 ⟨v, rfl, ⟨A, c, rfl, hl, hf⟩, hb⟩
  have hlen : (s.P.map person).length = s.P.length := List.length_map ..
  have HF := Aside0.mk hf
  have HB := Aside0.mk hb
  rw [hlen] at hl ⊢
  clear hlen hf hb
  go_wp2_with fail
  go_loopw [10] (fun i wr => ∃ k : Nat, k ≤ s.P.length ∧ i = .int .i64 k ∧ who s p = (((s.P.drop k).find? fun q => decide (q.2 = p)).map (·.1)).getD [] ∧ Below w1.heap.size w1 wr) (fun i _ => s.P.length - (intOf i).toNat)
  case atStart => exact ⟨0, Nat.zero_le _, rfl, rfl, Below.refl _ _⟩
  case round =>
    obtain ⟨k, hk, rfl, hw, hbr⟩ := hrel
    have HBR := Aside0.mk hbr
    have HW := Aside0.mk hw
    clear hw
    by_cases hlt : k < s.P.length
    · obtain ⟨ad, A1, c1, rfl, hc0, hc1, hv⟩ := ppl_at (Kd.F_below HF.out hbr) hlt
      clear hbr
      go_wp2_with fail
      refine (eq42 (ok := fun b => W.heap.size ≤ b) (ok' := ok') (a := s.P[k].2) (b := p) ?h1 ?h2).mono ?_
      case h1 => exact Kd.V_alloc hv _
      case h2 => exact ⟨Ap, cp, rfl, hlp, Kd.F_alloc (Kd.F_below HPV.out (below_up HB.out HBR.out HB.out.size)) _⟩
      rintro e w2 ⟨rfl, ⟨n, rfl⟩⟩
      have hd : s.P.drop k = s.P[k] :: s.P.drop (k + 1) := List.drop_eq_getElem_cons hlt
      by_cases he : s.P[k].2 = p
      · have hwho : who s p = s.P[k].1 := by rw [HW.out, hd, List.find?_cons_of_pos (p := fun q : B × B => decide (q.2 = p)) (by simpa using he)]; rfl
        have HWH := Aside0.mk hwho
        have hdt : decide (s.P[k].2 = p) = true := decide_eq_true he
        clear hd hwho he
        go_wp2
        go_ret
        exact ⟨by show Ending.returned (Value.string _) = _; rw [HWH.out], pw_below_drewN (below_alloc (below_up HB.out HBR.out HB.out.size) _) n⟩
      · have hwho : who s p = (((s.P.drop (k + 1)).find? fun q => decide (q.2 = p)).map (·.1)).getD [] := by rw [HW.out, hd, List.find?_cons_of_neg (p := fun q : B × B => decide (q.2 = p)) (by simpa using he)]
        have HWH := Aside0.mk hwho
        have hdt : decide (s.P[k].2 = p) = false := decide_eq_false he
        clear hd hwho he
        go_wp2
        exact ⟨⟨k + 1, by omega, by go_num, HWH.out, pw_below_drewN (HBR.out.alloc HBR.out.size _) n⟩, by simp [intOf]; omega⟩
    · obtain rfl : k = s.P.length := by omega
      go_wp2
      go_ret
      exact ⟨by rw [HW.out]; simp [mkS], below_up HB.out HBR.out HB.out.size⟩
end Go.Proofs.YtflioeiklcnncaaGreatDoor.Ri

set_option linter.unusedVariables false
set_option linter.unusedSimpArgs false
namespace Go.Proofs.YtflioeiklcnncaaGreatDoor.Ri
open Go.RowKit Go.Maps Go.Sort Go.Proofs.YtflioeiklcnncaaGreatDoorW.PrintWords Go.Proofs.YtflioeiklcnncaaGreatDoor.PRing

def letters : ByteArray := ⟨#[97, 98, 99, 100, 101, 102, 103, 104, 105, 106, 107, 108, 109, 110, 111, 112, 113, 114, 115, 116, 117, 118, 119, 120, 121, 122, 48, 49, 50, 51, 52, 53, 54, 55, 56, 57, 45]⟩
theorem letters_mem (c : UInt8) : letters.data.toList.contains c = nameB c := by
  have h : ∀ n : Fin 256, letters.data.toList.contains (UInt8.ofFin n) = nameB (UInt8.ofFin n) := by decide +kernel
  exact h c.toFin
theorem trim_letters (l : B) : (Lib.trimS l letters.data.toList = []) ↔ l.all nameB = true := by
  have h1 : ∀ l : B, l.dropWhile (letters.data.toList.contains ·) = [] ↔ l.all nameB = true := by
    intro l
    induction l with
    | nil => simp
    | cons c r ih =>
      rw [List.dropWhile_cons, letters_mem]
      by_cases hc : nameB c = true
      · rw [if_pos hc, ih, List.all_cons, hc, Bool.true_and]
      · rw [if_neg hc, List.all_cons]; simp [hc]
  have h2 : Lib.trimRightS l letters.data.toList = [] ↔ l.all nameB = true := by
    unfold Lib.trimRightS
    rw [List.reverse_eq_nil_iff, h1, List.all_reverse]
  unfold Lib.trimS Lib.trimLeftS
  rw [h1, ← h2]
  constructor
  · intro h
    by_cases hn : Lib.trimRightS l letters.data.toList = []
    · exact hn
    · -- the last byte stays
      exfalso
      unfold Lib.trimRightS at h hn
      rw [List.all_reverse] at h
      cases hd : l.reverse.dropWhile (letters.data.toList.contains ·) with
      | nil => rw [hd] at hn; exact hn rfl
      | cons c r =>
        have hne : l.reverse.dropWhile (letters.data.toList.contains ·) ≠ [] := by rw [hd]; simp
        have := List.head_dropWhile_not (letters.data.toList.contains ·) hne
        simp only [hd, List.head_cons] at this
        rw [hd, List.all_cons, Bool.and_eq_true] at h
        rw [letters_mem, h.1] at this
        cases this
  · intro h; rw [h]; rfl

theorem trim_isEmpty (l : B) : (Lib.trimS l letters.data.toList).isEmpty = l.all nameB := by
  rw [Bool.eq_iff_iff, List.isEmpty_iff, trim_letters]
theorem trim68 (s : ByteArray) (W : World) (hs : s.size ≤ 9223372036854775807) :
    Calls Tryz.prog 68 #[.string s, .string letters] W fun e w' => e = .returned (.string ⟨(Lib.trimS s.data.toList letters.data.toList).toArray⟩) ∧ Below W.heap.size W w' :=
  Any.strings_Trim_laid Tryz.lays160 (by kernel_rfl) s letters W hs (by decide) (ascii_of_all (by decide))

set_option maxRecDepth 100000 in
set_option maxHeartbeats 400000 in
theorem mayName_calls (s : ByteArray) (W : World) (hs : s.size ≤ 9223372036854775807) :
    Calls Tryz.prog 51 #[.string s] W fun e w' => e = .returned (.bool (nameOK (bz s))) ∧ Below W.heap.size W w' := by
  by_cases h0 : s = ⟨#[]⟩
  · subst h0
    go_enter Tryz.func51, Tryz.ntmps51
    go_wp2
    go_ret
    exact ⟨rfl, Below.refl _ _⟩
  · have he : s.toList.isEmpty = false := by
      rw [ByteArray.toList_eq, Bool.eq_false_iff]
      intro h
      exact h0 (WideShapes.bytes_inj (by simpa using h))
    by_cases h40 : s.size ≤ 40
    · have ht := trim68 s W hs
      unfold letters at ht
      have HT := Aside0.mk ht
      clear ht
      go_enter Tryz.func51, Tryz.ntmps51
      go_wp2_with fail
      refine HT.out.mono ?_
      rintro e w1 ⟨rfl, hb⟩
      go_wp2_with fail
      go_ret
      refine ⟨?_, hb⟩
      have h1 := trim_isEmpty (bz s)
      have hl : 1 ≤ (bz s).length := by
        rcases Nat.eq_zero_or_pos (bz s).length with h | h
        · exact absurd (WideShapes.bytes_inj (List.eq_nil_of_length_eq_zero h)) h0
        · exact h
      have h4 : (bz s).length ≤ 40 := by rw [bz_length]; exact h40
      have hn : nameOK (bz s) = (bz s).all nameB := by
        unfold nameOK
        rw [decide_eq_true hl, decide_eq_true h4, Bool.and_true, Bool.and_true]
      rw [hn, ← h1]
      rfl
    · have hn : nameOK (bz s) = false := by
        unfold nameOK
        have h4 : ¬ (bz s).length ≤ 40 := by rw [bz_length]; exact h40
        rw [decide_eq_false h4, Bool.and_false]
      go_enter Tryz.func51, Tryz.ntmps51
      go_wp2
      go_ret
      exact ⟨rfl, Below.refl _ _⟩

/-! Person -/
def person1 (s : St) (nm pt : B) : Int × St :=
  if nameOK nm = false ∨ pt.length ≠ 32 then (1, s)
  else if there s nm = true ∨ who s pt ≠ [] then (5, s)
  else if 32 ≤ s.P.length then (3, s)
  else (0, { s with P := aput s.P nm pt })

theorem ahas_iff {V : Type} {l : List (B × V)} {k : B} : ahas l k = true ↔ ∃ p ∈ l, p.1 = k := by
  simp [ahas]
theorem ahas_false {V : Type} {l : List (B × V)} {k : B} : ahas l k = false ↔ ∀ p ∈ l, p.1 ≠ k := by
  simp [ahas]
theorem adel_none {V : Type} {l : List (B × V)} {k : B} (h : ahas l k = false) : adel l k = l := by
  rw [ahas_false] at h
  unfold adel
  rw [List.filter_eq_self]
  intro p hp
  simpa using h p hp
theorem ains_map {V : Type} (f : B → Value) (k : B) (x : V) (v : Value) : ∀ l : List (B × V), (∀ p ∈ l, p.1 ≠ k) → ains (k, v) (l.map fun p => (p.1, f p.1)) = (ains (k, x) l).map fun p => (p.1, (fun b => if b = k then v else f b) p.1)
  | [], _ => by simp [ains]
  | y :: r, h => by
    have hy : y.1 ≠ k := h y (by simp)
    have hr : ∀ p ∈ r, p.1 ≠ k := fun p hp => h p (by simp [hp])
    have hc : (y :: r).map (fun p => (p.1, f p.1)) = (y :: r).map fun p => (p.1, (fun b => if b = k then v else f b) p.1) := by
      apply List.map_congr_left
      intro p hp
      simp [h p hp]
    simp only [ains, List.map_cons]
    split
    · rename_i hb
      rw [List.map_cons, List.map_cons] at hc
      rw [List.map_cons, List.map_cons, ← hc]
      simp
    · rename_i hb
      rw [List.map_cons, ← ains_map f k x v r hr]
      simp [hy]
theorem aput_map {V : Type} (l : List (B × V)) (f : B → Value) (k : B) (x : V) (v : Value) (h : ahas l k = false) :
    aput (l.map fun p => (p.1, f p.1)) k v = (aput l k x).map fun p => (p.1, (fun b => if b = k then v else f b) p.1) := by
  unfold aput
  rw [adel_none (by rw [ahas_map]; exact h), adel_none h]
  exact ains_map f k x v l (ahas_false.1 h)
theorem ains_mem {V : Type} {x p : B × V} : ∀ {l : List (B × V)}, p ∈ ains x l ↔ p = x ∨ p ∈ l
  | [] => by simp [ains]
  | y :: r => by
    simp only [ains]
    split
    · simp
    · simp only [List.mem_cons, ains_mem (l := r)]
      constructor
      · rintro (h | h | h) <;> simp [h]
      · rintro (h | h | h) <;> simp [h]
theorem ains_length {V : Type} (x : B × V) : ∀ l : List (B × V), (ains x l).length = l.length + 1
  | [] => rfl
  | y :: r => by
    simp only [ains]
    split
    · simp
    · simp [ains_length x r]
theorem aput_length {V : Type} {l : List (B × V)} {k : B} (h : ahas l k = false) (v : V) : (aput l k v).length = l.length + 1 := by
  unfold aput
  rw [adel_none h, ains_length]
theorem MapAt.norm {w : World} {b n : Nat} {l : List (B × Value)} (h : MapAt w b n l) : MapAt w b l.length l := by
  obtain ⟨es, clock, hb, F, hs, hD⟩ := h
  refine ⟨es, clock, hb, F, ?_, hD⟩
  have e : l.map ent = (es.toList.map (WideElems.rg Tryz.prog 9 raw)).foldr DataW.insert [] := by simpa [mapD] using hD
  have := congrArg List.length e
  rw [length_sorted] at this
  simp at this
  omega

/-- 'm[k] = v' at the operation, in a region that draws its order. -/
theorem step_put {w : World} {ops : Array Oper} {o : Oper} {a : Act} {K : Act → World → Prop} {Q : Exit → Act → World → Prop} {E : Prop} (hgd : o.guard = none) (m x v : Operand) (t e : TypeId) (hop : o.op = Op.mapUpdate t m x v)
    (ht : Tryz.prog.underlying t = some (.map 9 e)) {b n : Nat} {l : List (B × Value)} (hm : a.eval m = .map (some b)) (h : MapAt w b n l) (hn : n < maxLen) (s : ByteArray) (hs : s.size ≤ maxLen) (hx : a.eval x = .string s) (val : Value) (hv : a.eval v = val)
    (hK : ∀ w', MapAt w' b (n + 1) (aput l s.data.toList val) → w.mapTurned w' b → K (a.put o.dst undef) w') :
    if Region.wanted o (yielded ops a.tmps) = true then Oper.wp Tryz.prog o a w K Q else E := by
  have hw : Region.wanted o (yielded ops a.tmps) = true := by simp [Region.wanted, hgd]
  rw [if_pos hw]
  obtain ⟨w', hrun, r1, r2⟩ := h.store ht hn hs val
  unfold Oper.wp
  simp [execOp, hop, hm, hx, hv, hrun, Result.andThen]
  exact hK w' r1 r2
theorem RingAt.bl {W : World} {ok : Nat → Prop} {r bp bg : Nat} {s : St} (h : RingAt W ok r bp bg s) : r ≠ bp ∧ r ≠ bg := ⟨fun e => h.pok (e ▸ h.rok), fun e => h.gok (e ▸ h.rok)⟩
theorem RingAt.put {W W2 W3 : World} {ok : Nat → Prop} {r bp bg : Nat} {s : St} (h : RingAt W ok r bp bg s) (hb : Below W.heap.size W W2) {nm pt : B} (hno : ahas s.P nm = false) {v : Value} (hv : Bts W2 ok v pt)
    {l : List (B × Value)} {f : B → Value} (hl : l = s.P.map fun p => (p.1, f p.1)) (hf : ∀ p ∈ s.P, Bts W ok (f p.1) p.2) {n : Nat} (hm : MapAt W3 bp n (aput l nm v)) (ht : W2.mapTurned W3 bp) : RingAt W3 ok r bp bg { s with P := aput s.P nm pt } := by
  have h2 := h.below hb
  have hT := Turn.of_map ht
  have hne := h.bl
  obtain ⟨g, hg, hgp⟩ := h2.gm
  refine ⟨hT.cell h2.c0 hne.1, hT.cell h2.c1 hne.1, h.rok, h.bne, h.pok, h.gok, ⟨fun b => if b = nm then v else f b, ?_, ?_⟩, ⟨g, hT.map hg (fun e => h.bne e.symm), fun p hp => hT.V (hgp p hp) (fun k hk e => h.pok (by rw [← e]; exact hk))⟩⟩
  · subst hl
    rw [aput_map s.P f nm pt v hno] at hm
    have := hm.norm
    rwa [List.length_map] at this
  · intro p hp
    have hp' : p = (nm, pt) ∨ p ∈ s.P := by
      simp only [aput, adel_none hno] at hp
      exact ains_mem.1 hp
    have hok : ∀ k, ok k → ¬ k = bp := fun k hk e => h.pok (by rw [← e]; exact hk)
    rcases hp' with rfl | hp'
    · simp only [if_true]
      exact hT.V hv hok
    · have : p.1 ≠ nm := ahas_false.1 hno p hp'
      simp only [this, if_false]
      exact hT.V (Kd.V_below (hf p hp') hb) hok
end Go.Proofs.YtflioeiklcnncaaGreatDoor.Ri

set_option linter.unusedVariables false
set_option linter.unusedSimpArgs false
namespace Go.Proofs.YtflioeiklcnncaaGreatDoor.Ri
open Go.RowKit Go.Maps Go.Sort Go.Proofs.YtflioeiklcnncaaGreatDoorW.PrintWords Go.Proofs.YtflioeiklcnncaaGreatDoor.PRing

theorem Bts.mk' {W : World} {ok : Nat → Prop} {A : Option Addr} {c : Nat} {b : B} (hf : Kd.F (Kd.int .u8) W ok A b.length (ints b)) (hl : b.length ≤ c) : Bts W ok (.slice A b.length c) b :=
  ⟨A, c, by rw [ints_length], by rw [ints_length]; exact hl, by rw [ints_length]; exact hf⟩
theorem MapAt.below {w w' : World} {b n : Nat} {l : List (B × Value)} (h : MapAt w b n l) (hb : Below w.heap.size w w') : MapAt w' b n l := (Turn.of_below (S := fun _ => False) hb).map h (fun h => h)
/-- What is small enough. -/
structure Sml (s : St) : Prop where
  p : s.P.length ≤ 1000
  g : s.G.length ≤ 1000
  ps : ∀ p ∈ s.P, p.1.length ≤ 1000 ∧ p.2.length ≤ 1000
  gs : ∀ p ∈ s.G, p.1.length ≤ 1000 ∧ p.2.length ≤ 1000

def RingPost (W : World) (ok : Nat → Prop) (r bp bg : Nat) (T : Nat → Prop) (x : Int × St) (e : Ending) (w' : World) : Prop :=
  e = .returned (.int .i64 x.1) ∧ RingAt w' ok r bp bg x.2 ∧ Turn T W w'
theorem RingPost.same {W w' : World} {ok : Nat → Prop} {r bp bg : Nat} {T : Nat → Prop} {s : St} {n : Int} {x : Int × St} (hx : x = (n, s)) (h : RingAt W ok r bp bg s) (hb : Below W.heap.size W w') : RingPost W ok r bp bg T x (.returned (.int .i64 n)) w' :=
  ⟨by rw [hx], by rw [hx]; exact h.below hb, .of_below hb⟩

set_option maxRecDepth 100000 in
set_option maxHeartbeats 800000 in
theorem Person_calls {W : World} {ok ok' : Nat → Prop} {r bp bg : Nat} {s : St} (h : RingAt W ok r bp bg s) (hS : Sml s) (hfresh : ∀ k, W.heap.size ≤ k → ok k)
    (nm : ByteArray) (hn : nm.size ≤ 1000) {pv : Value} {p : B} (hp : Bts W ok' pv p) (hpl : p.length ≤ 1000) :
    Calls Tryz.prog 24 #[.pointer (some ⟨r, 0, none⟩), .string nm, pv] W (RingPost W ok r bp bg (· = bp) (person1 s (bz nm) p)) := by
  have hmn := mayName_calls nm W (by omega)
  by_cases h1 : nameOK (bz nm) = false
  · rw [h1] at hmn
    have hx : person1 s (bz nm) p = (1, s) := by unfold person1; rw [if_pos (.inl h1)]
    have HM := Aside0.mk hmn
    have HX := Aside0.mk hx
    have HR := Aside0.mk h
    clear hx hmn h hp h1
    go_enter Tryz.func24, Tryz.ntmps24
    go_wp2_with fail
    refine HM.out.mono ?_
    rintro e w1 ⟨rfl, hb⟩
    go_wp2_with fail
    go_ret
    exact RingPost.same HX.out HR.out hb
  have h1' : nameOK (bz nm) = true := by simpa using h1
  rw [h1'] at hmn
  obtain ⟨A, c, rfl, hl, hf⟩ := hp
  rw [ints_length] at hl hf ⊢
  have HF := Aside0.mk hf
  clear hf
  by_cases h2 : p.length ≠ 32
  · have hx : person1 s (bz nm) p = (1, s) := by unfold person1; rw [if_pos (.inr h2)]
    have HM := Aside0.mk hmn
    have HX := Aside0.mk hx
    have HR := Aside0.mk h
    have h2b : ((p.length : Int) == 32) = false := by simp; omega
    clear hx hmn h h1 h1' h2
    go_enter Tryz.func24, Tryz.ntmps24
    go_wp2_with fail
    refine HM.out.mono ?_
    rintro e w1 ⟨rfl, hb⟩
    go_wp2_with fail
    go_ret
    exact RingPost.same HX.out HR.out hb
  have h2' : p.length = 32 := by omega
  have h2b : ((p.length : Int) == 32) = true := by simp; omega
  have hno1 : ¬ (nameOK (bz nm) = false ∨ p.length ≠ 32) := fun e => e.elim h1 h2
  have HM := Aside0.mk hmn
  have HR := Aside0.mk h
  have HTH := Aside0.mk (fun (W' : World) (h' : RingAt W' ok r bp bg s) => there_calls h' nm (by unfold maxLen; omega))
  have HWH := Aside0.mk (fun (W' : World) (hb : Below W.heap.size W W') => Who_calls (h.below hb) hS.p hS.ps (Bts.mk' (Kd.F_below HF.out hb) hl))
  have HCL := Aside0.mk (fun (W' : World) (hb : Below W.heap.size W W') => clone_bytes (Bts.mk' (Kd.F_below HF.out hb) hl) (by omega))
  have HNM := Aside0.mk (show nm.size ≤ maxLen by unfold maxLen; omega)
  have HSM := Aside0.mk hS
  clear hmn h1 h1' h2 h2' hS hn hpl
  by_cases h3 : there s (bz nm) = true
  · have hx : person1 s (bz nm) p = (5, s) := by unfold person1; rw [if_neg hno1, if_pos (.inl h3)]
    have HX := Aside0.mk hx
    have H3 := Aside0.mk h3
    clear hx h3 h hno1
    go_enter Tryz.func24, Tryz.ntmps24
    go_wp2_with fail
    refine HM.out.mono ?_
    rintro e w1 ⟨rfl, hb⟩
    go_wp2_with fail
    have hth := HTH.out w1 (HR.out.below hb)
    rw [H3.out] at hth
    refine hth.mono ?_
    rintro e w' ⟨rfl, rfl⟩
    clear hth
    go_wp2_with fail
    go_ret
    exact RingPost.same HX.out HR.out hb
  have h3' : there s (bz nm) = false := by simpa using h3
  have H3 := Aside0.mk h3'
  clear h3'
  by_cases h4 : who s p ≠ []
  · have hx : person1 s (bz nm) p = (5, s) := by unfold person1; rw [if_neg hno1, if_pos (.inr h4)]
    have HX := Aside0.mk hx
    have h4b : (mkS (who s p)).toList.isEmpty = false := by
      rw [ByteArray.toList_eq]
      simpa [mkS] using h4
    clear hx h3 h hno1 h4
    go_enter Tryz.func24, Tryz.ntmps24
    go_wp2_with fail
    refine HM.out.mono ?_
    rintro e w1 ⟨rfl, hb⟩
    go_wp2_with fail
    have hth := HTH.out w1 (HR.out.below hb)
    rw [H3.out] at hth
    refine hth.mono ?_
    rintro e w' ⟨rfl, rfl⟩
    clear hth
    go_wp2_with fail
    refine (HWH.out w1 hb).mono ?_
    rintro e w2 ⟨rfl, hb2⟩
    have HB2 := Aside0.mk (below_up hb hb2 hb.size)
    go_wp2_with fail
    go_ret
    exact RingPost.same HX.out HR.out HB2.out
  have h4' : who s p = [] := by simpa using h4
  have hno2 : ¬ (there s (bz nm) = true ∨ who s p ≠ []) := fun e => e.elim h3 h4
  have H4 := Aside0.mk h4'
  clear h4 h4' h3
  obtain ⟨f, hpm, hpv⟩ := h.pm
  have HPM := Aside0.mk hpm
  have HPV := Aside0.mk hpv
  clear hpm hpv
  have HLEN := Aside0.mk (fun (W' : World) (hb : Below W.heap.size W W') => ((Turn.of_below (S := fun _ => False) hb).map HPM.out (fun h => h)).length Tryz.underlying58)
  by_cases h5 : 32 ≤ s.P.length
  · have hx : person1 s (bz nm) p = (3, s) := by unfold person1; rw [if_neg hno1, if_neg hno2, if_pos h5]
    have HX := Aside0.mk hx
    clear hx h hno1 hno2
    go_enter Tryz.func24, Tryz.ntmps24
    go_wp2_with fail
    refine HM.out.mono ?_
    rintro e w1 ⟨rfl, hb⟩
    go_wp2_with fail
    have hth := HTH.out w1 (HR.out.below hb)
    rw [H3.out] at hth
    refine hth.mono ?_
    rintro e w' ⟨rfl, rfl⟩
    clear hth
    go_wp2_with fail
    have hwh := HWH.out w1 hb
    rw [H4.out, show mkS [] = ⟨#[]⟩ from rfl] at hwh
    refine hwh.mono ?_
    rintro e w2 ⟨rfl, hb2⟩
    clear hwh
    have HB2 := Aside0.mk (below_up hb hb2 hb.size)
    have c0 := (HR.out.below HB2.out).c0
    have hlen := HLEN.out w2 HB2.out
    rw [List.length_map] at hlen
    go_wp2_with fail
    go_ret
    exact RingPost.same HX.out HR.out HB2.out
  · have hx : person1 s (bz nm) p = (0, { s with P := aput s.P (bz nm) p }) := by unfold person1; rw [if_neg hno1, if_neg hno2, if_neg h5]
    have HX := Aside0.mk hx
    clear hx h hno1 hno2
    go_enter Tryz.func24, Tryz.ntmps24
    go_wp2_with fail
    refine HM.out.mono ?_
    rintro e w1 ⟨rfl, hb⟩
    go_wp2_with fail
    have hth := HTH.out w1 (HR.out.below hb)
    rw [H3.out] at hth
    refine hth.mono ?_
    rintro e w' ⟨rfl, rfl⟩
    clear hth
    go_wp2_with fail
    have hwh := HWH.out w1 hb
    rw [H4.out, show mkS [] = ⟨#[]⟩ from rfl] at hwh
    refine hwh.mono ?_
    rintro e w2 ⟨rfl, hb2⟩
    clear hwh
    have HB2 := Aside0.mk (below_up hb hb2 hb.size)
    have c0 := (HR.out.below HB2.out).c0
    have hlen := HLEN.out w2 HB2.out
    rw [List.length_map] at hlen
    go_wp2_with fail
    clear hlen
    go_region_held3 (fun w' => w'.cell? ⟨r, 0, none⟩ = some (.map (some bp))) (first | go_keep | exact pw_cell_below hb3 c0 | exact (Turn.of_map ht4).cell (pw_cell_below (w := w2.drew) hb3 c0) HR.out.bl.1)
      (first
        | (go_at_call 46; refine (HCL.out _ (HB2.out.drew)).mono ?_; rintro e w3 ⟨v', rfl, hv', hb3⟩)
        | (obtain ⟨w4, hrun, hm4, ht4⟩ := (HPM.out.below (below_up HB2.out.drew hb3 HB2.out.drew.size)).store Tryz.underlying58 (by rw [List.length_map] at *; unfold maxLen; omega) HNM.out v'; rw [hrun]; go_simp))
    go_wp2
    go_ret
    have hb3' : Below W.heap.size W w3 := below_up HB2.out.drew hb3 HB2.out.drew.size
    refine ⟨by rw [HX.out]; rfl, ?_, ?_⟩
    · rw [HX.out]
      have hno : ahas s.P (bz nm) = false := by
        have := H3.out
        unfold there at this
        rw [Bool.or_eq_false_iff] at this
        exact this.1
      exact RingAt.put HR.out hb3' hno (Kd.V_mono hv' (fun k hk => hfresh k (Nat.le_trans HB2.out.size hk))) rfl HPV.out hm4 ht4
    · exact (Turn.of_below hb3').trans (Turn.of_map ht4)
end Go.Proofs.YtflioeiklcnncaaGreatDoor.Ri

set_option linter.unusedVariables false
set_option linter.unusedSimpArgs false
namespace Go.Proofs.YtflioeiklcnncaaGreatDoor.Ri
open Go.RowKit Go.Maps Go.Sort Go.Proofs.YtflioeiklcnncaaGreatDoorW.PrintWords Go.Proofs.YtflioeiklcnncaaGreatDoor.PRing

theorem find_ains {V : Type} {k : B} {v : V} (x : B) : ∀ {l : List (B × V)}, (∀ p ∈ l, p.1 ≠ k) → (ains (k, v) l).find? (fun p => p.1 == x) = if x = k then some (k, v) else l.find? (fun p => p.1 == x)
  | [], _ => by
    by_cases h : x = k
    · subst h; simp [ains]
    · have : ¬ k = x := fun e => h e.symm
      simp [ains, h, this]
  | y :: r, hl => by
    have hy : y.1 ≠ k := hl y (by simp)
    have ih := find_ains (v := v) x (l := r) (fun p hp => hl p (by simp [hp]))
    simp only [ains]
    split
    · by_cases h : x = k
      · subst h; simp
      · have : (k == x) = false := by simpa using fun e : k = x => h e.symm
        rw [List.find?_cons, this, if_neg h]
    · rw [List.find?_cons, ih, List.find?_cons]
      by_cases h : x = k
      · subst h
        have : (y.1 == x) = false := by simpa using hy
        rw [this, if_pos rfl]
      · rw [if_neg h, if_neg h]
theorem adel_ne {V : Type} {l : List (B × V)} {k : B} : ∀ p ∈ adel l k, p.1 ≠ k := by
  intro p hp
  simp only [adel, List.mem_filter] at hp
  simpa using hp.2
theorem alook_put {V : Type} (l : List (B × V)) (k : B) (v : V) (x : B) : alook (aput l k v) x = if x = k then some v else alook l x := by
  unfold alook aput
  rw [find_ains x adel_ne]
  by_cases h : x = k
  · simp [h]
  · rw [if_neg h, if_neg h]
    congr 1
    unfold adel
    rw [List.find?_filter]
    congr 1
    funext p
    by_cases hp : p.1 = x
    · have : ¬ p.1 = k := fun e => h (hp.symm.trans e)
      simp [hp, h]
    · simp [hp]
theorem aput_len {V : Type} (l : List (B × V)) (k : B) (v : V) : (aput l k v).length ≤ l.length + 1 := by
  unfold aput
  rw [ains_length]
  have := List.length_filter_le (fun p : B × V => !(p.1 == k)) l
  unfold adel
  omega
theorem z3 (w : World) : (zeroValue 3).run Tryz.prog w = .ok (.int .i64 0) w := by kernel_rfl

/-- What a seen map holds. -/
def Seen (m : List (B × Value)) (l : List B) : Prop := ∀ x, alook m x = if x ∈ l then some (.int .i64 1) else none
def dup (l : List B) : Bool := decide (¬ l.Nodup)

set_option maxRecDepth 100000 in
set_option maxHeartbeats 400000 in
theorem twice_calls {W : World} {ok : Nat → Prop} {pv : Value} {ms : List B} (h : Strs W ok pv ms) (hl : ms.length ≤ 100000) (hs : ∀ x ∈ ms, x.length ≤ 100000) :
    Calls Tryz.prog 52 #[pv] W fun e w' => e = .returned (.bool (dup ms)) ∧ Below W.heap.size W w' := by
  obtain ⟨A, c, rfl, hc, hf⟩ := h
  have hlen : (ms.map mkS).length = ms.length := List.length_map ..
  rw [hlen] at hc hf ⊢
  have HF := Aside0.mk hf
  have HS := Aside0.mk hs
  clear hlen hf hs
  have hmm := @run_makeMap Tryz.prog
  go_enter Tryz.func52, Tryz.ntmps52
  go_wp2_with fail
  clear hmm
  go_loopw [9] (fun i wr => ∃ k : Nat, k ≤ ms.length ∧ i = .int .i64 k ∧ (∃ m, MapAt wr W.heap.size m.length m ∧ m.length ≤ k ∧ Seen m (ms.take k)) ∧ (ms.take k).Nodup ∧ Below W.heap.size W wr) (fun i _ => ms.length - (intOf i).toNat)
  case atStart => exact ⟨0, Nat.zero_le _, rfl, ⟨[], MapAt.made W, Nat.le_refl _, fun x => by simp [alook]⟩, List.nodup_nil, (Below.refl _ _).alloc (Nat.le_refl _) _⟩
  case round =>
    obtain ⟨k, hk, rfl, ⟨m, hm, hmk, hseen⟩, hnd, hbr⟩ := hrel
    have HBR := Aside0.mk hbr
    have HND := Aside0.mk hnd
    have HSEEN := Aside0.mk hseen
    clear hnd hseen
    by_cases hlt : k < ms.length
    · obtain ⟨nm, hnm⟩ : ∃ nm, nm = ms[k] := ⟨_, rfl⟩
      obtain ⟨ad, rfl, hcell⟩ := str_at (Kd.F_below HF.out hbr) hlt
      rw [← hnm] at hcell
      have hsz : (mkS nm).size ≤ maxLen := by
        rw [mkS_size, hnm]
        have := HS.out _ (List.getElem_mem hlt)
        unfold maxLen; omega
      have l1 := hm.look1 Tryz.underlying63 (z3 wr) hsz
      rw [show (mkS nm).data.toList = nm from bz_mkS nm, HSEEN.out] at l1
      have HNM := Aside0.mk hnm
      have htk : ms.take (k + 1) = ms.take k ++ [nm] := by rw [List.take_succ_eq_append_getElem hlt, hnm]
      have HTK := Aside0.mk htk
      by_cases hin : nm ∈ ms.take k
      · rw [if_pos hin] at l1
        obtain ⟨w2, hrun, hm2, ht2⟩ := hm.store Tryz.underlying63 (by unfold maxLen; omega) hsz (.int .i64 2)
        have l2 := hm2.look1 Tryz.underlying63 (z3 w2) hsz
        rw [show (mkS nm).data.toList = nm from bz_mkS nm, alook_put, if_pos rfl] at l2
        have hdup : dup ms = true := by
          unfold dup
          rw [decide_eq_true_eq]
          intro hn
          have : (ms.take (k + 1)).Nodup := List.Nodup.sublist (List.take_sublist _ _) hn
          rw [htk, List.nodup_append] at this
          exact this.2.2 nm hin nm (by simp) rfl
        have HD := Aside0.mk hdup
        have HT2 := Aside0.mk ht2
        simp only [Option.getD_some] at l1 l2
        clear hnm hsz htk hin hm hm2 ht2 hdup hmk
        go_wp2_with fail
        go_ret
        exact ⟨by rw [HD.out]; rfl, HBR.out.trans ((Turn.of_map HT2.out).below (fun k hk => by rw [hk]; exact Nat.le_refl _) HBR.out.size)⟩
      · rw [if_neg hin] at l1
        obtain ⟨w2, hrun, hm2, ht2⟩ := hm.store Tryz.underlying63 (by unfold maxLen; omega) hsz (.int .i64 1)
        have l2 := hm2.look1 Tryz.underlying63 (z3 w2) hsz
        rw [show (mkS nm).data.toList = nm from bz_mkS nm, alook_put, if_pos rfl] at l2
        have hm3 := hm2.norm
        rw [show (mkS nm).data.toList = nm from bz_mkS nm] at hm3
        have HM3 := Aside0.mk hm3
        have HL3 := Aside0.mk (Nat.le_trans (aput_len m nm (.int .i64 1)) (Nat.succ_le_succ hmk))
        have HIN := Aside0.mk hin
        have HT2 := Aside0.mk ht2
        simp only [Option.getD_some, Option.getD_none] at l1 l2
        clear hnm hsz htk hin hm hm2 hm3 ht2 hmk
        go_wp2_with fail
        refine ⟨⟨k + 1, by omega, by go_num, ⟨aput m nm (.int .i64 1), HM3.out, HL3.out, fun x => ?_⟩, ?_, HBR.out.trans ((Turn.of_map HT2.out).below (fun k hk => by rw [hk]; exact Nat.le_refl _) HBR.out.size)⟩, by simp [intOf]; omega⟩
        · rw [alook_put, HSEEN.out, HTK.out]
          by_cases hx : x = nm
          · simp [hx]
          · simp [hx]
        · rw [HTK.out, List.nodup_append]
          exact ⟨HND.out, by simp, fun a ha b hb => by
            rw [List.mem_singleton] at hb
            subst hb
            exact fun e => HIN.out (e ▸ ha)⟩
    · obtain rfl : k = ms.length := by omega
      have hdup : dup ms = false := by
        have := HND.out
        rw [List.take_length] at this
        unfold dup
        rw [decide_eq_false_iff_not]
        exact fun h => h this
      have HD := Aside0.mk hdup
      clear hdup hm hmk
      go_wp2_with fail
      go_ret
      exact ⟨by rw [HD.out]; rfl, HBR.out⟩
end Go.Proofs.YtflioeiklcnncaaGreatDoor.Ri

set_option linter.unusedVariables false
set_option linter.unusedSimpArgs false
namespace Go.Proofs.YtflioeiklcnncaaGreatDoor.Ri
open Go.RowKit Go.Maps Go.Sort Go.Proofs.YtflioeiklcnncaaGreatDoorW.PrintWords Go.Proofs.YtflioeiklcnncaaGreatDoor.PRing Go.Shelf

def group1 (s : St) (nm : B) (ms : List B) : Int × St :=
  if nameOK nm = false ∨ 32 < ms.length ∨ dup ms = true then (1, s)
  else if there s nm = true then (5, s)
  else if ms.any (fun m => !there s m) = true then (4, s)
  else if 32 ≤ s.G.length then (3, s)
  else (0, { s with G := aput s.G nm ms })

abbrev MB := { x : ByteArray // x.size ≤ maxLen }
instance : Inhabited MB := ⟨⟨⟨#[]⟩, by decide⟩⟩
set_option maxHeartbeats 400000 in
theorem closure54 {W : World} {ok : Nat → Prop} {r bp bg bx : Nat} {s : St} (h : RingAt W ok r bp bg s) (hx : W.cell? ⟨bx, 0, none⟩ = some (.pointer (some ⟨r, 0, none⟩))) (m : ByteArray) (hm : m.size ≤ maxLen) :
    Calls Tryz.prog 54 #[.string m, .pointer (some ⟨bx, 0, none⟩)] W fun e w' => e = .returned (.bool (!there s (bz m))) ∧ W = w' := by
  have HT := Aside0.mk (there_calls h m hm)
  clear h hm
  go_enter Tryz.func54, Tryz.ntmps54
  go_wp2_with fail
  refine HT.out.mono ?_
  rintro e w' ⟨rfl, rfl⟩
  go_wp2_with fail
  go_ret
  exact ⟨rfl, rfl⟩
theorem pred54 {W : World} {ok : Nat → Prop} {r bp bg bx : Nat} {s : St} (h : RingAt W ok r bp bg s) (hx : W.cell? ⟨bx, 0, none⟩ = some (.pointer (some ⟨r, 0, none⟩))) :
    PredAt Tryz.prog 54 #[.pointer (some ⟨bx, 0, none⟩)] (fun x : MB => Value.string x.1) (fun x => !there s (bz x.1)) W := fun W' x hb => by
  have hx' := pw_cell_below hb hx
  exact (closure54 (h.below hb) hx' x.1 x.2).mono fun e w' ⟨he, hw⟩ => ⟨he, 0, by rw [← hw]; rfl⟩
def mb (m : B) : MB := if h : m.length ≤ maxLen then ⟨mkS m, by rw [mkS_size]; exact h⟩ else default
theorem containsF {W : World} {ok ok' : Nat → Prop} {r bp bg bx : Nat} {s : St} (h : RingAt W ok r bp bg s) (hx : W.cell? ⟨bx, 0, none⟩ = some (.pointer (some ⟨r, 0, none⟩)))
    {pv : Value} {ms : List B} (hp : Strs W ok' pv ms) (hs : ∀ x ∈ ms, x.length ≤ maxLen) :
    Calls Tryz.prog 53 #[pv, .func (.func 54) #[] #[.pointer (some ⟨bx, 0, none⟩)]] W fun e w' => e = .returned (.bool (ms.any fun m => !there s m)) ∧ ∃ q, w' = W.drewN q := by
  obtain ⟨A, c, rfl, hc, hf⟩ := hp
  have hlen : (ms.map mkS).length = ms.length := List.length_map ..
  rw [hlen] at hc hf ⊢
  rcases Nat.eq_zero_or_pos ms.length with h0 | h0
  · have hms : ms = [] := List.eq_nil_of_length_eq_zero h0
    subst hms
    exact (AnyE.slices_ContainsFunc_empty Tryz.containsF53 A c _ W).mono fun e w' ⟨he, hw⟩ => ⟨he, 0, hw⟩
  · obtain ⟨ad, rfl, hcell⟩ := str_at hf h0
    obtain ⟨ab, ao, asp⟩ := ad
    have hsp : asp = none := by
      cases asp with
      | none => rfl
      | some x => simp [World.cell?, Addr.add] at hcell; split at hcell <;> simp_all
    subst hsp
    have eg : ∀ args w, (callFunc 54 args).run Tryz.prog w = .ok (.enter 54 args) w := enters_of Tryz.func54 (by kernel_rfl) rfl
    have hcells : ∀ j, j < (ms.map mb).length → W.cell? ⟨ab, ao + j, none⟩ = some (Value.string ((ms.map mb)[j]!).1) := fun j hj => by
      have hj' : j < ms.length := by simpa using hj
      obtain ⟨ad, e, hcj⟩ := str_at hf hj'
      cases e
      have ha : (⟨ab, ao, none⟩ : Addr).add j = ⟨ab, ao + j, none⟩ := by unfold Addr.add; split <;> simp_all
      rw [ha] at hcj
      have hmx : ms[j].length ≤ maxLen := hs _ (List.getElem_mem hj')
      rw [hcj, getElem!_pos (ms.map mb) j hj]
      simp [mb, hmx]
    refine (AnyE.slices_ContainsFunc Tryz.containsF53 (fun x : MB => Value.string x.1) (fun x => !there s (bz x.1)) 54 #[.pointer (some ⟨bx, 0, none⟩)] eg ab ao ms.length c (ms.map mb) W (pred54 h hx) (by simp) (by have := hf; exact Kd.F_max hf) hcells).mono fun e w' ⟨he, hw⟩ => ⟨?_, hw⟩
    rw [he, List.take_of_length_le (by simp), List.any_map]
    have : ∀ l : List B, (∀ x ∈ l, x.length ≤ maxLen) → l.any ((fun x : MB => !there s (bz x.1)) ∘ mb) = l.any fun m => !there s m := by
      intro l hl
      induction l with
      | nil => rfl
      | cons a r ih =>
        rw [List.any_cons, List.any_cons, ih (fun x hx => hl x (by simp [hx]))]
        have ha := hl a (by simp)
        simp [mb, ha, bz_mkS]
    rw [this ms hs]

theorem Strs.mk' {W : World} {ok : Nat → Prop} {A : Option Addr} {c : Nat} {b : List B} (hf : Kd.F Kd.string W ok A b.length (b.map mkS)) (hl : b.length ≤ c) : Strs W ok (.slice A b.length c) b :=
  ⟨A, c, by rw [List.length_map], by rw [List.length_map]; exact hl, by rw [List.length_map]; exact hf⟩
theorem RingAt.putG {W W2 W3 : World} {ok : Nat → Prop} {r bp bg : Nat} {s : St} (h : RingAt W ok r bp bg s) (hb : Below W.heap.size W W2) {nm : B} {ms : List B} (hno : ahas s.G nm = false) {v : Value} (hv : Strs W2 ok v ms)
    {l : List (B × Value)} {f : B → Value} (hl : l = s.G.map fun p => (p.1, f p.1)) (hf : ∀ p ∈ s.G, Strs W ok (f p.1) p.2) {n : Nat} (hm : MapAt W3 bg n (aput l nm v)) (ht : W2.mapTurned W3 bg) : RingAt W3 ok r bp bg { s with G := aput s.G nm ms } := by
  have h2 := h.below hb
  have hT := Turn.of_map ht
  have hne := h.bl
  obtain ⟨g, hg, hgp⟩ := h2.pm
  refine ⟨hT.cell h2.c0 hne.2, hT.cell h2.c1 hne.2, h.rok, h.bne, h.pok, h.gok, ⟨g, hT.map hg (fun e => h.bne e), fun p hp => hT.V (hgp p hp) (fun k hk e => h.gok (by rw [← e]; exact hk))⟩, ⟨fun b => if b = nm then v else f b, ?_, ?_⟩⟩
  · subst hl
    rw [aput_map s.G f nm ms v hno] at hm
    have := hm.norm
    rwa [List.length_map] at this
  · intro p hp
    have hp' : p = (nm, ms) ∨ p ∈ s.G := by
      simp only [aput, adel_none hno] at hp
      exact ains_mem.1 hp
    have hok : ∀ k, ok k → ¬ k = bg := fun k hk e => h.gok (by rw [← e]; exact hk)
    rcases hp' with rfl | hp'
    · simp only [if_true]
      exact hT.V hv hok
    · have : p.1 ≠ nm := ahas_false.1 hno p hp'
      simp only [this, if_false]
      exact hT.V (Kd.V_below (hf p hp') hb) hok

set_option maxRecDepth 100000 in
set_option maxHeartbeats 1600000 in
theorem Group_calls {W : World} {ok ok' : Nat → Prop} {r bp bg : Nat} {s : St} (h : RingAt W ok r bp bg s) (hS : Sml s) (hfresh : ∀ k, W.heap.size ≤ k → ok k)
    (nm : ByteArray) (hn : nm.size ≤ 1000) {pv : Value} {ms : List B} (hp : Strs W ok' pv ms) (hml : ms.length ≤ 1000) (hms : ∀ x ∈ ms, x.length ≤ 1000) :
    Calls Tryz.prog 25 #[.pointer (some ⟨r, 0, none⟩), .string nm, pv] W (RingPost W ok r bp bg (· = bg) (group1 s (bz nm) ms)) := by
  have hmn := fun W' : World => mayName_calls nm W' (by omega)
  obtain ⟨A, c, rfl, hl, hf⟩ := hp
  rw [List.length_map] at hl hf ⊢
  have HF := Aside0.mk hf
  have HR := Aside0.mk h
  have HNM := Aside0.mk (show nm.size ≤ maxLen by unfold maxLen; omega)
  have HNE := Aside0.mk (show W.heap.size ≠ bg from fun e => by obtain ⟨f, hf, _⟩ := h.gm; have := hf.lt; omega)
  have HA := Aside0.mk (((Below.refl W.heap.size W).alloc (Nat.le_refl _) (.cells #[.pointer (some ⟨r, 0, none⟩)] 27)))
  have HBX := Aside0.mk (fun (w1 : World) (hb : Below (W.heap.size + 1) (W.alloc (.cells #[.pointer (some ⟨r, 0, none⟩)] 27)) w1) => (hb.cell (p := ⟨W.heap.size, 0, none⟩) (Nat.lt_succ_self _)).trans (show (W.alloc (.cells #[.pointer (some ⟨r, 0, none⟩)] 27)).cell? ⟨W.heap.size, 0, none⟩ = some (.pointer (some ⟨r, 0, none⟩)) by simp))
  have HTW := Aside0.mk (fun (W' : World) (hb : Below W.heap.size W W') => twice_calls (Strs.mk' (Kd.F_below hf hb) hl) (by omega) (fun x hx => by have := hms x hx; omega))
  have HTH := Aside0.mk (fun (W' : World) (h' : RingAt W' ok r bp bg s) => there_calls h' nm (by unfold maxLen; omega))
  have HCL := Aside0.mk (fun (W' : World) (hb : Below W.heap.size W W') => clone_strs (Strs.mk' (Kd.F_below hf hb) hl) (by omega))
  have HCF := Aside0.mk (fun (W' : World) (hb : Below W.heap.size W W') (hx : W'.cell? ⟨W.heap.size, 0, none⟩ = some (.pointer (some ⟨r, 0, none⟩))) => containsF (h.below hb) hx (Strs.mk' (Kd.F_below hf hb) hl) (fun x hx => by have := hms x hx; unfold maxLen; omega))
  clear hf hms hn
  by_cases h1 : nameOK (bz nm) = false
  · have hx : group1 s (bz nm) ms = (1, s) := by unfold group1; rw [if_pos (.inl h1)]
    have HM := Aside0.mk hmn
    have HX := Aside0.mk hx
    have H1 := Aside0.mk h1
    clear hx hmn h h1
    go_enter Tryz.func25, Tryz.ntmps25
    go_wp2_with fail
    have hm1 := HM.out (W.alloc (.cells #[.pointer (some ⟨r, 0, none⟩)] 27))
    rw [H1.out] at hm1
    refine hm1.mono ?_
    rintro e w1 ⟨rfl, hb⟩
    clear hm1
    go_wp2_with fail
    go_ret
    exact RingPost.same HX.out HR.out (below_up HA.out hb HA.out.size)
  have h1' : nameOK (bz nm) = true := by simpa using h1
  simp only [h1'] at hmn
  have HM := Aside0.mk hmn
  clear hmn
  by_cases h2 : 32 < ms.length
  · have hx : group1 s (bz nm) ms = (1, s) := by unfold group1; rw [if_pos (.inr (.inl h2))]
    have HX := Aside0.mk hx
    clear hx h h1 h1'
    go_enter Tryz.func25, Tryz.ntmps25
    go_wp2_with fail
    refine (HM.out _).mono ?_
    rintro e w1 ⟨rfl, hb⟩
    go_wp2_with fail
    go_ret
    exact RingPost.same HX.out HR.out (below_up HA.out hb HA.out.size)
  by_cases h3 : dup ms = true
  · have hx : group1 s (bz nm) ms = (1, s) := by unfold group1; rw [if_pos (.inr (.inr h3))]
    have HX := Aside0.mk hx
    have H3 := Aside0.mk h3
    clear hx h h1 h1' h3
    go_enter Tryz.func25, Tryz.ntmps25
    go_wp2_with fail
    refine (HM.out _).mono ?_
    rintro e w1 ⟨rfl, hb⟩
    have HB1 := Aside0.mk (below_up HA.out hb HA.out.size)
    go_wp2_with fail
    have htw := HTW.out w1 HB1.out
    rw [H3.out] at htw
    refine htw.mono ?_
    rintro e w2 ⟨rfl, hb2⟩
    clear htw
    go_wp2_with fail
    go_ret
    exact RingPost.same HX.out HR.out (below_up HB1.out hb2 HB1.out.size)
  have h3' : dup ms = false := by simpa using h3
  have hno1 : ¬ (nameOK (bz nm) = false ∨ 32 < ms.length ∨ dup ms = true) := fun e => e.elim h1 (fun e => e.elim h2 h3)
  have H3 := Aside0.mk h3'
  clear h3' h3 h1 h1'
  by_cases h4 : there s (bz nm) = true
  · have hx : group1 s (bz nm) ms = (5, s) := by unfold group1; rw [if_neg hno1, if_pos h4]
    have HX := Aside0.mk hx
    have H4 := Aside0.mk h4
    clear hx h hno1 h4
    go_enter Tryz.func25, Tryz.ntmps25
    go_wp2_with fail
    refine (HM.out _).mono ?_
    rintro e w1 ⟨rfl, hb⟩
    have HB1 := Aside0.mk (below_up HA.out hb HA.out.size)
    have HC1 := Aside0.mk (hb.mono (Nat.le_of_eq (by simp)) : Below (W.heap.size + 1) _ w1)
    go_wp2_with fail
    have htw := HTW.out w1 HB1.out
    rw [H3.out] at htw
    refine htw.mono ?_
    rintro e w2 ⟨rfl, hb2⟩
    have HB2 := Aside0.mk (below_up HB1.out hb2 HB1.out.size)
    have HC2 := Aside0.mk (HC1.out.trans (hb2.mono (by have := HC1.out.size; simpa using this)))
    clear htw
    have cx := HBX.out w2 HC2.out
    go_wp2_with fail
    have hth := HTH.out w2 (HR.out.below HB2.out)
    rw [H4.out] at hth
    refine hth.mono ?_
    rintro e w' ⟨rfl, rfl⟩
    clear hth
    go_wp2_with fail
    go_ret
    exact RingPost.same HX.out HR.out HB2.out
  have h4' : there s (bz nm) = false := by simpa using h4
  have H4 := Aside0.mk h4'
  clear h4'
  by_cases h5 : ms.any (fun m => !there s m) = true
  · have hx : group1 s (bz nm) ms = (4, s) := by unfold group1; rw [if_neg hno1, if_neg h4, if_pos h5]
    have HX := Aside0.mk hx
    have H5 := Aside0.mk h5
    clear hx h hno1 h4 h5
    go_enter Tryz.func25, Tryz.ntmps25
    go_wp2_with fail
    refine (HM.out _).mono ?_
    rintro e w1 ⟨rfl, hb⟩
    have HB1 := Aside0.mk (below_up HA.out hb HA.out.size)
    have HC1 := Aside0.mk (hb.mono (Nat.le_of_eq (by simp)) : Below (W.heap.size + 1) _ w1)
    go_wp2_with fail
    have htw := HTW.out w1 HB1.out
    rw [H3.out] at htw
    refine htw.mono ?_
    rintro e w2 ⟨rfl, hb2⟩
    have HB2 := Aside0.mk (below_up HB1.out hb2 HB1.out.size)
    have HC2 := Aside0.mk (HC1.out.trans (hb2.mono (by have := HC1.out.size; simpa using this)))
    clear htw
    have cx := HBX.out w2 HC2.out
    go_wp2_with fail
    have hth := HTH.out w2 (HR.out.below HB2.out)
    rw [H4.out] at hth
    refine hth.mono ?_
    rintro e w' ⟨rfl, rfl⟩
    clear hth
    go_wp2_with fail
    have hcf := HCF.out w2 HB2.out cx
    rw [H5.out] at hcf
    refine hcf.mono ?_
    rintro e w' ⟨rfl, ⟨q, rfl⟩⟩
    clear hcf
    go_wp2_with fail
    go_ret
    exact RingPost.same HX.out HR.out (pw_below_drewN HB2.out q)
  have h5' : ms.any (fun m => !there s m) = false := by simpa using h5
  have H5 := Aside0.mk h5'
  clear h5'
  obtain ⟨f, hgm, hgv⟩ := h.gm
  have HGM := Aside0.mk hgm
  have HGV := Aside0.mk hgv
  clear hgm hgv
  have HLEN := Aside0.mk (fun (W' : World) (hb : Below W.heap.size W W') => (HGM.out.below hb).length Tryz.underlying59)
  by_cases h6 : 32 ≤ s.G.length
  · have hx : group1 s (bz nm) ms = (3, s) := by unfold group1; rw [if_neg hno1, if_neg h4, if_neg h5, if_pos h6]
    have HX := Aside0.mk hx
    clear hx h hno1 h4 h5
    go_enter Tryz.func25, Tryz.ntmps25
    go_wp2_with fail
    refine (HM.out _).mono ?_
    rintro e w1 ⟨rfl, hb⟩
    have HB1 := Aside0.mk (below_up HA.out hb HA.out.size)
    have HC1 := Aside0.mk (hb.mono (Nat.le_of_eq (by simp)) : Below (W.heap.size + 1) _ w1)
    go_wp2_with fail
    have htw := HTW.out w1 HB1.out
    rw [H3.out] at htw
    refine htw.mono ?_
    rintro e w2 ⟨rfl, hb2⟩
    have HB2 := Aside0.mk (below_up HB1.out hb2 HB1.out.size)
    have HC2 := Aside0.mk (HC1.out.trans (hb2.mono (by have := HC1.out.size; simpa using this)))
    clear htw
    have cx := HBX.out w2 HC2.out
    go_wp2_with fail
    have hth := HTH.out w2 (HR.out.below HB2.out)
    rw [H4.out] at hth
    refine hth.mono ?_
    rintro e w' ⟨rfl, rfl⟩
    clear hth
    go_wp2_with fail
    have hcf := HCF.out w2 HB2.out cx
    rw [H5.out] at hcf
    refine hcf.mono ?_
    rintro e w' ⟨rfl, ⟨q, rfl⟩⟩
    clear hcf
    have c1 := (HR.out.below HB2.out).c1
    have hlen := HLEN.out (w2.drewN q) (pw_below_drewN HB2.out q)
    rw [List.length_map] at hlen
    go_wp2_with fail
    go_ret
    exact RingPost.same HX.out HR.out (pw_below_drewN HB2.out q)
  · have hx : group1 s (bz nm) ms = (0, { s with G := aput s.G (bz nm) ms }) := by unfold group1; rw [if_neg hno1, if_neg h4, if_neg h5, if_neg h6]
    have HX := Aside0.mk hx
    clear hx h hno1 h4 h5
    go_enter Tryz.func25, Tryz.ntmps25
    go_wp2_with fail
    refine (HM.out _).mono ?_
    rintro e w1 ⟨rfl, hb⟩
    have HB1 := Aside0.mk (below_up HA.out hb HA.out.size)
    have HC1 := Aside0.mk (hb.mono (Nat.le_of_eq (by simp)) : Below (W.heap.size + 1) _ w1)
    go_wp2_with fail
    have htw := HTW.out w1 HB1.out
    rw [H3.out] at htw
    refine htw.mono ?_
    rintro e w2 ⟨rfl, hb2⟩
    have HB2 := Aside0.mk (below_up HB1.out hb2 HB1.out.size)
    have HC2 := Aside0.mk (HC1.out.trans (hb2.mono (by have := HC1.out.size; simpa using this)))
    clear htw
    have cx := HBX.out w2 HC2.out
    go_wp2_with fail
    have hth := HTH.out w2 (HR.out.below HB2.out)
    rw [H4.out] at hth
    refine hth.mono ?_
    rintro e w' ⟨rfl, rfl⟩
    clear hth
    go_wp2_with fail
    have hcf := HCF.out w2 HB2.out cx
    rw [H5.out] at hcf
    refine hcf.mono ?_
    rintro e w' ⟨rfl, ⟨q, rfl⟩⟩
    clear hcf
    have c1 := (HR.out.below HB2.out).c1
    have hlen := HLEN.out (w2.drewN q) (pw_below_drewN HB2.out q)
    rw [List.length_map] at hlen
    go_wp2_with fail
    clear hlen
    have hwq : ∃ wq, wq = w2.drewN q := ⟨_, rfl⟩
    obtain ⟨wq, hwq⟩ := hwq
    have HBQ := Aside0.mk (show Below W.heap.size W wq from hwq ▸ pw_below_drewN HB2.out q)
    have cxq : wq.cell? ⟨W.heap.size, 0, none⟩ = some (.pointer (some ⟨r, 0, none⟩)) := hwq ▸ cx
    have c1q : wq.cell? ⟨r, 1, none⟩ = some (.map (some bg)) := hwq ▸ c1
    rw [← hwq]
    clear hwq cx c1
    go_region_held3 (fun w' => w'.cell? ⟨W.heap.size, 0, none⟩ = some (.pointer (some ⟨r, 0, none⟩)) ∧ w'.cell? ⟨r, 1, none⟩ = some (.map (some bg)))
      (first | go_keep | exact ⟨pw_cell_below hb3 cxq, pw_cell_below hb3 c1q⟩ | exact ⟨(Turn.of_map ht4).cell (pw_cell_below (w := wq.drew) hb3 cxq) (HNE.out), (Turn.of_map ht4).cell (pw_cell_below (w := wq.drew) hb3 c1q) HR.out.bl.2⟩)
      (first
        | (go_at_call 44; refine (HCL.out _ (HBQ.out.drew)).mono ?_; rintro e w3 ⟨v', rfl, hv', hb3⟩)
        | (obtain ⟨w4, hrun, hm4, ht4⟩ := (HGM.out.below (below_up HBQ.out.drew hb3 HBQ.out.drew.size)).store Tryz.underlying59 (by unfold maxLen; omega) HNM.out v'; rw [hrun]; go_simp))
    go_wp2
    go_ret
    have hb3' : Below W.heap.size W w3 := below_up HBQ.out.drew hb3 HBQ.out.drew.size
    refine ⟨by rw [HX.out]; rfl, ?_, ?_⟩
    · rw [HX.out]
      have hno : ahas s.G (bz nm) = false := by
        have := H4.out
        unfold there at this
        rw [Bool.or_eq_false_iff] at this
        exact this.2
      exact RingAt.putG HR.out hb3' hno (Kd.V_mono hv' (fun k hk => hfresh k (Nat.le_trans HBQ.out.size hk))) rfl HGV.out hm4 ht4
    · exact (Turn.of_below hb3').trans (Turn.of_map ht4)
end Go.Proofs.YtflioeiklcnncaaGreatDoor.Ri

set_option linter.unusedVariables false
set_option linter.unusedSimpArgs false
namespace Go.Proofs.YtflioeiklcnncaaGreatDoor.Ri
open Go.RowKit Go.Maps Go.Sort Go.Proofs.YtflioeiklcnncaaGreatDoorW.PrintWords Go.Proofs.YtflioeiklcnncaaGreatDoor.PRing

def drop1 (s : St) (nm : B) : Int × St :=
  if there s nm = false then (4, s)
  else if s.G.any (fun p => decide (nm ∈ p.2)) = true then (1, s)
  else (0, ⟨adel s.P nm, adel s.G nm⟩)

theorem keyOf9_inv {key : Value} {kl : Lit} (h : keyOf Tryz.prog 9 key = some kl) : ∃ x : ByteArray, key = .string x := by
  cases key <;> simp [keyOf, Tryz.underlying9, mapKey] at h
  exact ⟨_, rfl⟩
theorem keyOf9_lit {x : ByteArray} {kl : Lit} (h : keyOf Tryz.prog 9 (.string x) = some kl) : kl = .string (bz x) := by
  simp [keyOf, Tryz.underlying9, mapKey] at h
  exact h.2.symm
theorem at_entry {V : Type} {l : List (B × V)} {f : B → Value} {k : B} {c : Value} (h : ∀ zd, (mapD (l.map fun p => (p.1, f p.1))).atKey (.string k) zd = .held c) : ∃ p ∈ l, p.1 = k ∧ c = f p.1 := by
  have h1 := h (.held (.int .i64 0))
  have h2 := h (.held (.int .i64 1))
  rw [mapD_at] at h1 h2
  by_cases ha : ahas l k = true
  · rw [alook_map _ _ _ ha] at h1
    obtain ⟨p, hp, hk⟩ := ahas_iff.1 ha
    refine ⟨p, hp, hk, ?_⟩
    simp only [Option.getD_some, DataW.held.injEq] at h1
    rw [hk, h1]
  · have : alook (l.map fun p => (p.1, f p.1)) k = none := by
      simp only [alook, Option.map_eq_none_iff, List.find?_eq_none]
      intro q hq
      obtain ⟨p, hp, rfl⟩ := List.mem_map.1 hq
      intro e
      exact ha (ahas_iff.2 ⟨p, hp, by simpa using e⟩)
    rw [this] at h1 h2
    simp only [Option.getD_none, DataW.held.injEq] at h1 h2
    rw [← h1] at h2
    simp at h2

theorem adel_map {V : Type} (l : List (B × V)) (f : B → Value) (k : B) : adel (l.map fun p => (p.1, f p.1)) k = (adel l k).map fun p => (p.1, f p.1) := by
  simp only [adel, List.filter_map]
  rfl
theorem srt_inj {V : Type} {l : List (B × V)} {f : B → Value} (h : Srt (l.map fun p => (p.1, f p.1))) {p q : B × V} (hp : p ∈ l) (hq : q ∈ l) (e : p.1 = q.1) : p = q := by
  unfold Srt at h
  rw [List.pairwise_map] at h
  induction l with
  | nil => cases hp
  | cons a r ih =>
    rw [List.pairwise_cons] at h
    rcases List.mem_cons.1 hp with rfl | hp'
    · rcases List.mem_cons.1 hq with rfl | hq'
      · rfl
      · exact absurd e (bb_ne (h.1 q hq'))
    · rcases List.mem_cons.1 hq with rfl | hq'
      · exact absurd e.symm (bb_ne (h.1 p hp'))
      · exact ih h.2 hp' hq'
set_option maxRecDepth 100000 in
set_option maxHeartbeats 800000 in
theorem Drop_calls {W : World} {ok : Nat → Prop} {r bp bg : Nat} {s : St} (h : RingAt W ok r bp bg s) (nm : ByteArray) (hn : nm.size ≤ 1000) :
    Calls Tryz.prog 22 #[.pointer (some ⟨r, 0, none⟩), .string nm] W (RingPost W ok r bp bg (fun k => k = bp ∨ k = bg) (drop1 s (bz nm))) := by
  have hth := there_calls h nm (by unfold maxLen; omega)
  have HR := Aside0.mk h
  by_cases h1 : there s (bz nm) = false
  · have hx : drop1 s (bz nm) = (4, s) := by unfold drop1; rw [if_pos h1]
    rw [h1] at hth
    have HX := Aside0.mk hx
    have HTH := Aside0.mk hth
    clear hx h1 hth h
    go_enter Tryz.func22, Tryz.ntmps22
    go_wp2_with fail
    refine HTH.out.mono ?_
    rintro e w' ⟨rfl, rfl⟩
    go_wp2_with fail
    go_ret
    exact RingPost.same HX.out HR.out (Below.refl _ _)
  have h1' : there s (bz nm) = true := by simpa using h1
  rw [h1'] at hth
  have HTH := Aside0.mk hth
  obtain ⟨f, hgm, hgv⟩ := h.gm
  obtain ⟨lg, hlg⟩ : ∃ lg : List (B × Value), lg = s.G.map fun p => (p.1, f p.1) := ⟨_, rfl⟩
  rw [← hlg] at hgm
  have HLG := Aside0.mk hlg
  have HGM := Aside0.mk hgm
  have HGV := Aside0.mk hgv
  have c1 := h.c1
  have H1 := Aside0.mk h1
  have HKEY := Aside0.mk (keyOf9 (s := nm) (by unfold maxLen; omega))
  clear hth hgm hgv h1' h h1 hlg
  go_enter Tryz.func22, Tryz.ntmps22
  go_wp2_with fail
  refine HTH.out.mono ?_
  rintro e w' ⟨rfl, rfl⟩
  go_wp2_with (at_range; refine stop_at ?_)
  unfold Stop
  refine wpList_range_own _ rfl _ 59 rfl 9 23 law9 Tryz.underlying59 raw bg s.G.length (mapD lg) rfl HGM.out ?_
  intro w0 hrg0 hg0 hs0
  have HRG0 := Aside0.mk hrg0
  have HG0 := Aside0.mk hg0
  clear hrg0 hg0 hs0
  go_wp2_with fail
  go_frame
  go_loopw [16] (fun _ wr => ∃ left cnt, wr.ranges Tryz.prog 9 raw bg W.heap.size s.G.length (mapD lg) left cnt ∧ (∀ p : B × List B, p ∈ s.G → left (.string p.1) = false → bz nm ∉ p.2) ∧ Below W.heap.size W wr) (fun _ wr => wr.rangeLeft bg W.heap.size)
  case atStart =>
    refine ⟨_, _, HRG0.out, fun p hp hl => ?_, (Below.refl _ _).grown HG0.out (Nat.le_refl _) (fun k hk => by cases hk)⟩
    rw [mapD_has, HLG.out, ahas_map] at hl
    rw [ahas_false] at hl
    exact absurd rfl (hl p hp)
  case round =>
    obtain ⟨left, cnt, hrg, hall, hbr⟩ := hrel
    have HRG := Aside0.mk hrg
    have HALL := Aside0.mk hall
    have HBR := Aside0.mk hbr
    clear hrg hall hbr
    go_wp2_with (at_next; refine stop_at ?_)
    unfold Stop
    refine wpList_next_ranges _ rfl _ rfl 9 law9 raw Value.string (fun v : Value => v) (fun key kl hk => keyOf9_inv hk) (fun v y _ => ⟨v, rfl⟩) bg W.heap.size s.G.length (mapD lg) left cnt rfl HRG.out ?_ ?_
    · intro hc0 hl0
      have HL0 := Aside0.mk hl0
      clear hc0 hl0
      have hr1 := HR.out.below HBR.out
      have c0 := hr1.c0
      have c1' := hr1.c1
      have HR1 := Aside0.mk hr1
      obtain ⟨fp, hpm, hpv⟩ := hr1.pm
      have HPM := Aside0.mk hpm
      have HPV := Aside0.mk hpv
      clear hr1 hpm hpv
      go_wp2_with (at_delete; refine stop_at ?_)
      unfold Stop
      refine wpList_delete_own _ rfl _ _ 58 9 rfl 24 law9 Tryz.underlying58 raw bp s.P.length (mapD (s.P.map fun p : B × B => (p.1, fp p.1))) rfl HPM.out _ _ rfl HKEY.out ?_
      intro w2 hm2 ht2
      have HM2 := Aside0.mk hm2
      have HT2 := Aside0.mk ht2
      have c1'' := (Turn.of_map ht2).cell c1' HR.out.bl.1
      have hgm2 := (Turn.of_map ht2).map (HGM.out.below HBR.out) (fun e => HR.out.bne e.symm)
      have HGM2 := Aside0.mk hgm2
      clear hm2 ht2 hgm2
      go_wp2_with (at_delete; refine stop_at ?_)
      unfold Stop
      refine wpList_delete_own _ rfl _ _ 59 9 rfl 23 law9 Tryz.underlying59 raw bg s.G.length (mapD lg) rfl HGM2.out _ _ rfl HKEY.out ?_
      intro w3 hm3 ht3
      have HM3 := Aside0.mk hm3
      have HT3 := Aside0.mk ht3
      clear hm3 ht3
      go_wp2_with fail
      go_ret
      have hT2 := (Turn.of_map HT2.out)
      have hT3 := (Turn.of_map HT3.out)
      have hany : ¬ s.G.any (fun p => decide (bz nm ∈ p.2)) = true := by
        rw [List.any_eq_true]
        rintro ⟨p, hp, hd⟩
        exact HALL.out p hp (HL0.out _) (of_decide_eq_true hd)
      have hx : drop1 s (bz nm) = (0, ⟨adel s.P (bz nm), adel s.G (bz nm)⟩) := by unfold drop1; rw [if_neg H1.out, if_neg hany]
      refine ⟨by rw [hx]; rfl, ?_, ?_⟩
      · rw [hx]
        have hm2 := HM2.out
        have hm3 := HM3.out
        rw [mapD_del, adel_map] at hm2
        rw [mapD_del, HLG.out, adel_map] at hm3
        have hm2' : MapAt w2 bp s.P.length ((adel s.P (bz nm)).map fun p => (p.1, fp p.1)) := hm2
        have hm3' : MapAt w3 bg s.G.length ((adel s.G (bz nm)).map fun p => (p.1, f p.1)) := hm3
        have hne := HR.out.bl
        have okp : ∀ k, ok k → ¬ k = bp := fun k hk e => HR.out.pok (by rw [← e]; exact hk)
        have okg : ∀ k, ok k → ¬ k = bg := fun k hk e => HR.out.gok (by rw [← e]; exact hk)
        have n2 := hm2'.norm
        have n3 := hm3'.norm
        rw [List.length_map] at n2 n3
        refine ⟨hT3.cell (hT2.cell c0 hne.1) hne.2, hT3.cell (hT2.cell c1' hne.1) hne.2, HR.out.rok, HR.out.bne, HR.out.pok, HR.out.gok, ⟨fp, hT3.map n2 HR.out.bne, fun p hp => ?_⟩, ⟨f, n3, fun p hp => ?_⟩⟩
        · exact hT3.V (hT2.V (HPV.out p (List.mem_filter.1 hp).1) okp) okg
        · exact hT3.V (hT2.V (Kd.V_below (HGV.out p (List.mem_filter.1 hp).1) HBR.out) okp) okg
      · exact ((Turn.of_below HBR.out).trans (hT2.mono (fun k hk => .inl hk))).trans (hT3.mono (fun k hk => .inr hk))
    · intro x c kl y w1 cnt1 hkey hlk hv hat hrg1 hlt hg1 hs1 hen
      have hkl := keyOf9_lit hkey
      subst hkl
      have hy : y = (.held c, []) := by simpa [raw] using hv.symm
      subst hy
      have hat' : ∃ p ∈ s.G, p.1 = bz x ∧ c = f p.1 := by
        refine at_entry (fun zd => ?_)
        rw [← HLG.out]
        exact hat zd
      obtain ⟨p, hp, hpx, rfl⟩ := hat'
      have hb1 : Below W.heap.size W w1 := HBR.out.grown hg1 HBR.out.size (fun k hk => by cases hk; exact Nat.le_refl _)
      have hct := contains47 (Kd.V_below (HGV.out p hp) hb1) nm
      have HCT := Aside0.mk hct
      have HRG1 := Aside0.mk hrg1
      have HB1 := Aside0.mk hb1
      have HLT := Aside0.mk hlt
      have HP := Aside0.mk hp
      have HPX := Aside0.mk hpx
      clear hkey hlk hv hat hrg1 hlt hg1 hs1 hct hb1 hp hpx
      go_wp2_with fail
      refine HCT.out.mono ?_
      rintro e w' ⟨rfl, ⟨q, rfl⟩⟩
      by_cases hin : bz nm ∈ p.2
      · have hx : drop1 s (bz nm) = (1, s) := by
          unfold drop1
          rw [if_neg H1.out, if_pos (List.any_eq_true.2 ⟨p, HP.out, decide_eq_true hin⟩)]
        have HX := Aside0.mk hx
        have hdt : decide (bz nm ∈ p.2) = true := decide_eq_true hin
        clear hx hin
        go_wp2_with fail
        go_ret
        exact RingPost.same HX.out HR.out (pw_below_drewN HB1.out q)
      · have HIN := Aside0.mk hin
        have hdt : decide (bz nm ∈ p.2) = false := decide_eq_false hin
        clear hin
        go_wp2_with fail
        have HRGq : (w1.drewN q).ranges Tryz.prog 9 raw bg W.heap.size s.G.length (mapD lg) (fun z => left z && !z.sameKey (.string (bz x))) cnt1 := HRG1.out.kept (grown_of_below (pw_below_drewN (Below.refl _ _) q) none) (by simp) (by simp)
        refine ⟨⟨_, cnt1, HRGq, fun p' hp' hl => ?_, pw_below_drewN HB1.out q⟩, ?_⟩
        · simp only [same_str, Bool.and_eq_false_iff, Bool.not_eq_false', beq_iff_eq] at hl
          rcases hl with hl | hl
          · exact HALL.out p' hp' hl
          · have : p' = p := by
              have hs := HGM.out.srt
              rw [HLG.out] at hs
              exact srt_inj hs hp' HP.out (by rw [hl, HPX.out])
            rw [this]
            exact HIN.out
        · show (w1.drewN q).rangeLeft bg W.heap.size < wr.rangeLeft bg W.heap.size
          rw [HRGq.left_eq, HRG.out.left_eq]
          exact HLT.out
end Go.Proofs.YtflioeiklcnncaaGreatDoor.Ri
