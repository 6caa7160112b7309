/-
  A region that draws its order, in which one operation (the first store into a cell that the region has loaded) waits for all loads: loads are taken first as long as that operation has not come up; what comes behind it need not keep what they read.
-/
import Derived.OrdersHeld
import Derived.Deep.RegionHeld
import Derived.Test.YtceflhffilldeaaZKept
import Derived.Test.YtceflhffilldeaaProg
import Derived.WalkKit
import Derived.OwnWalk
import Derived.Deep.AppendLies
import Derived.Lib.Hide
namespace Go.Proofs.Ytceflhffilldeaa
set_option linter.unusedVariables false
set_option linter.unusedSimpArgs false

section
variable {P : Program} {ops : Array Oper} {Q : Exit → Act → World → Prop} {md : Region.Mode} {S : World → Prop} {z : Nat}

/-- Operation z waits for operation i. -/
def waitsG (md : Region.Mode) (ops : Array Oper) (z i : Nat) : Bool :=
  ((ops[z]?).map fun o => o.after.any fun e => Region.binds md e && e.on == i).getD false

theorem waitsG_spec {listed : Array Bool} {i : Nat} (h : waitsG md ops z i = true) (hz : z ∈ Region.ready md ops listed) : listed.getD i false = true := by
  unfold waitsG at h
  obtain ⟨_, oz, hoz, hall⟩ := mem_ready.1 hz
  simp only [hoz, Option.map_some, Option.getD_some, Array.any_eq_true] at h
  obtain ⟨k, hk, h2⟩ := h
  simp only [Bool.and_eq_true, beq_iff_eq] at h2
  have h3 := hall oz.after[k] (Array.getElem_mem hk) h2.1
  rw [h2.2] at h3
  exact h3

/-- Whatever order is picked from here on; S holds as long as z has not come up. -/
def wpAnyG (P : Program) (md : Region.Mode) (ops : Array Oper) (Q : Exit → Act → World → Prop) (S : World → Prop) (z : Nat) : Nat → Array Bool → Act → World → Prop
  | 0, listed, a, w => Region.ready md ops listed = [] ∧ Q .normal a w
  | fuel + 1, listed, a, w =>
    (Region.ready md ops listed = [] → Q .normal a w) ∧
    ∀ i ∈ Region.ready md ops listed, wpOp P ops Q i (fun a' w' => (listed.getD z true = false → i ≠ z → S w') ∧ wpAnyG P md ops Q S z fuel (listed.setIfInBounds i true) a' w') a w

theorem wpAny_of_G : ∀ (fuel : Nat) (listed : Array Bool) (a : Act) (w : World), wpAnyG P md ops Q S z fuel listed a w → wpAny P md ops Q fuel listed a w
  | 0, _, _, _, h => h
  | fuel + 1, _, _, _, h => ⟨h.1, fun i hi => wpOp_mono (fun a' w' h' => wpAny_of_G fuel _ a' w' h'.2) (h.2 i hi)⟩

theorem getD_twoG {listed : Array Bool} {i : Nat} (h0 : listed.getD i true = false) (h1 : listed.getD i false = true) : False := by
  rcases Nat.lt_or_ge i listed.size with h' | h'
  · simp [h'] at h0 h1; rw [h0] at h1; cases h1
  · simp [Array.getElem?_eq_none h'] at h1

theorem wpAnyG_first {i : Nat} {oi : Oper} {v : Value} (hi : ops[i]? = some oi) (hsel : ∀ (j : Nat) (o : Oper) cs b, ops[j]? = some o → o.op ≠ .select cs b)
    (hQ : ∀ c a w, Q (.panic c) (a.put oi.dst v) w → Q (.panic c) a w) (hz : waitsG md ops z i = true) :
    ∀ (fuel : Nat) (listed : Array Bool) (a : Act) (w : World),
      (∀ j oj, ops[j]? = some oj → j ≠ i → listed.getD j true = false → (∀ e ∈ oj.after, Region.binds md e = true → e.on ≠ i) → oi.apart ops oj = true) →
      i ∈ Region.ready md ops listed → YieldsIf P ops S oi v a → S w → listed.getD z true = false →
      wpAnyG P md ops Q S z fuel (listed.setIfInBounds i true) (a.put oi.dst v) w → wpAnyG P md ops Q S z (fuel + 1) listed a w := by
  intro fuel
  induction fuel with
  | zero =>
    intro listed a w _ hr hy hS hz0 H
    refine ⟨fun h => (by rw [h] at hr; cases hr), fun j hj => ?_⟩
    by_cases hji : j = i
    · subst hji; exact hy.wpOp hi hS ⟨fun _ _ => hS, H⟩
    · have := ready_mono hj hji
      rw [H.1] at this
      cases this
  | succ fuel ih =>
    intro listed a w hfree hr hy hS hz0 H
    refine ⟨fun h => (by rw [h] at hr; cases hr), fun j hj => ?_⟩
    by_cases hji : j = i
    · subst hji; exact hy.wpOp hi hS ⟨fun _ _ => hS, H⟩
    · have h1 := H.2 j (ready_mono hj hji)
      obtain ⟨hjun, oj, hoj, hall⟩ := mem_ready.1 hj
      have hjz : j ≠ z := fun e => by
        subst e
        exact getD_twoG (mem_ready.1 hr).1 (waitsG_spec hz hj)
      have hnot : ∀ e ∈ oj.after, Region.binds md e = true → e.on ≠ i := fun e he hb heq => by
        have h1 := hall e he hb
        rw [heq] at h1
        exact getD_twoG (mem_ready.1 hr).1 h1
      have h2 := wpOp_putIf hoj (hfree j oj hoj hji hjun hnot) (fun cs b => hsel i oi cs b hi) (fun cs b => hsel j oj cs b hoj) hQ hy h1
      have hfree' : ∀ k ok, ops[k]? = some ok → k ≠ i → (listed.setIfInBounds j true).getD k true = false →
          (∀ e ∈ ok.after, Region.binds md e = true → e.on ≠ i) → oi.apart ops ok = true := fun k ok hk hki hun hno => by
        refine hfree k ok hk hki ?_ hno
        by_cases hjk : j = k
        · subst hjk; exact hjun
        · rw [getD_set_ne true hjk] at hun; exact hun
      have hz1 : (listed.setIfInBounds i true).getD z true = false := by
        rw [getD_set_ne true (fun e => by subst e; exact getD_twoG (mem_ready.1 hr).1 (waitsG_spec hz hr))]; exact hz0
      have hz2 : (listed.setIfInBounds j true).getD z true = false := by rw [getD_set_ne true hjz]; exact hz0
      refine wpOp_mono (fun a' w' h3 => ⟨fun _ hne => h3.2.1 hz1 hne, ih (listed.setIfInBounds j true) a' w' hfree' (ready_mono hr (Ne.symm hji)) h3.1 (h3.2.1 hz1 hjz) hz2 ?_⟩) h2
      rw [Array.setIfInBounds_comm _ _ hji]
      exact h3.2.2

/-- Take number i first. -/
theorem wpAnyG_take (i : Nat) {oi : Oper} {v : Value} {fuel : Nat} {listed : Array Bool} {a : Act} {w : World} (hi : ops[i]? = some oi)
    (hs : Region.noSelect ops = true) (hw : waitsG md ops z i = true) (hf : Region.free md ops listed i = true) (hr : (Region.ready md ops listed).contains i = true)
    (hQ : ∀ c a w, Q (.panic c) (a.put oi.dst v) w → Q (.panic c) a w) (hg : Region.wanted oi (yielded ops a.tmps) = true) (hy : ∀ w, S w → (execOp a.eval oi).run P w = .ok (.value v) w) (hS : S w) (hz0 : listed.getD z true = false)
    (h : wpAnyG P md ops Q S z fuel (listed.setIfInBounds i true) (a.put oi.dst v) w) : wpAnyG P md ops Q S z (fuel + 1) listed a w :=
  wpAnyG_first hi (Region.noSelect_spec hs) hQ hw fuel listed a w (Region.free_spec hi hf) (by simpa using hr) (Or.inl ⟨hg, hy⟩) hS hz0 h

def ReadyG (P : Program) (md : Region.Mode) (ops : Array Oper) (Q : Exit → Act → World → Prop) (S : World → Prop) (z : Nat) (fuel : Nat) (listed : Array Bool) (a : Act) (w : World) (rs : List Nat) : Prop :=
  ∀ i ∈ rs, wpOp P ops Q i (fun a' w' => (listed.getD z true = false → i ≠ z → S w') ∧ wpAnyG P md ops Q S z fuel (listed.setIfInBounds i true) a' w') a w
theorem ReadyG.nil {fuel : Nat} {listed : Array Bool} {a : Act} {w : World} : ReadyG P md ops Q S z fuel listed a w [] := fun _ h => by cases h
theorem ReadyG.cons {fuel : Nat} {listed : Array Bool} {a : Act} {w : World} {i : Nat} {o : Oper} {rs : List Nat} (ho : ops[i]? = some o)
    (h : ∀ K' : Act → World → Prop, Shut (∀ a w, (listed.getD z true = false → i ≠ z → S w) → wpAnyG P md ops Q S z fuel (listed.setIfInBounds i true) a w → K' a w) → if Region.wanted o (yielded ops a.tmps) = true then Oper.wp P o a w K' Q else K' (a.put o.dst undef) w)
    (hs : ReadyG P md ops Q S z fuel listed a w rs) : ReadyG P md ops Q S z fuel listed a w (i :: rs) := fun j hj => by
  rcases List.mem_cons.1 hj with rfl | hj
  · exact wpOp_step ho (fun K' hK => h K' (fun a w hS hW => hK a w ⟨hS, hW⟩))
  · exact hs j hj
/-- Whichever of those that may come up comes up. -/
theorem wpAnyG_ready (rs : List Nat) {fuel : Nat} {listed : Array Bool} {a : Act} {w : World} (hr : Region.ready md ops listed = rs) (hne : rs ≠ [])
    (h : ReadyG P md ops Q S z fuel listed a w rs) : wpAnyG P md ops Q S z (fuel + 1) listed a w :=
  ⟨fun h0 => absurd (hr ▸ h0) hne, hr ▸ h⟩
theorem wpAnyG_done {listed : Array Bool} {a : Act} {w : World} (hr : Region.ready md ops listed = []) (h : Q .normal a w) :
    ∀ fuel, wpAnyG P md ops Q S z fuel listed a w
  | 0 => ⟨hr, h⟩
  | _ + 1 => ⟨fun _ => h, by rw [hr]; simp⟩
/-- The same two, the operation read off the list. -/
theorem wpAnyG_takeL {l : List Oper} {S : World → Prop} {z : Nat} (i : Nat) {oi : Oper} {v : Value} {fuel : Nat} {listed : Array Bool} {a : Act} {w : World} (hi : l[i]? = some oi)
    (hs : Region.noSelect l.toArray = true) (hw : waitsG md l.toArray z i = true) (hf : Region.free md l.toArray listed i = true) (hr : (Region.ready md l.toArray listed).contains i = true)
    (hQ : ∀ c a w, Q (.panic c) (a.put oi.dst v) w → Q (.panic c) a w) (hg : Region.wanted oi (yielded l.toArray a.tmps) = true) (hy : ∀ w, S w → (execOp a.eval oi).run P w = .ok (.value v) w) (hS : S w) (hz0 : listed.getD z true = false)
    (h : wpAnyG P md l.toArray Q S z fuel (listed.setIfInBounds i true) (a.put oi.dst v) w) : wpAnyG P md l.toArray Q S z (fuel + 1) listed a w :=
  wpAnyG_take i (by simpa using hi) hs hw hf hr hQ hg hy hS hz0 h
theorem ReadyG.consL {l : List Oper} {S : World → Prop} {z : Nat} {fuel : Nat} {listed : Array Bool} {a : Act} {w : World} {i : Nat} {o : Oper} {rs : List Nat} (ho : l[i]? = some o)
    (h : ∀ K' : Act → World → Prop, Shut (∀ a w, (listed.getD z true = false → i ≠ z → S w) → wpAnyG P md l.toArray Q S z fuel (listed.setIfInBounds i true) a w → K' a w) → if Region.wanted o (yielded l.toArray a.tmps) = true then Oper.wp P o a w K' Q else K' (a.put o.dst undef) w)
    (hs : ReadyG P md l.toArray Q S z fuel listed a w rs) : ReadyG P md l.toArray Q S z fuel listed a w (i :: rs) := ReadyG.cons (by simpa using ho) h hs
theorem wp_region_G (S : World → Prop) (z : Nat) {id : Nat} {a : Act} {w : World} (hm : P.follows .mixedOrders = true)
    (h : wpAnyG P .any ops Q S z ops.size (Array.replicate ops.size false) a w.drew) : (Code.region id ops true).wp P Q a w :=
  wp_region_any hm (wpAny_of_G _ _ _ _ h)
end

end Go.Proofs.Ytceflhffilldeaa

/-
  A region that draws its order and ends with one operation that waits for all others (a store into a cell that the region has loaded): loads are taken first as long as that operation has not come up.
-/
namespace Go.Proofs.Ytceflhffilldeaa
set_option linter.unusedVariables false
set_option linter.unusedSimpArgs false

section
variable {P : Program} {ops : Array Oper} {Q : Exit → Act → World → Prop} {md : Region.Mode} {S : World → Prop} {z : Nat}

/-- Operation z waits for operation i. -/
def waitsOn (md : Region.Mode) (ops : Array Oper) (z i : Nat) : Bool :=
  ((ops[z]?).map fun o => o.after.any fun e => Region.binds md e && e.on == i).getD false

theorem waitsOn_spec {listed : Array Bool} {i : Nat} (h : waitsOn md ops z i = true) (hz : z ∈ Region.ready md ops listed) : listed.getD i false = true := by
  unfold waitsOn at h
  obtain ⟨_, oz, hoz, hall⟩ := mem_ready.1 hz
  simp only [hoz, Option.map_some, Option.getD_some, Array.any_eq_true] at h
  obtain ⟨k, hk, h2⟩ := h
  simp only [Bool.and_eq_true, beq_iff_eq] at h2
  have h3 := hall oz.after[k] (Array.getElem_mem hk) h2.1
  rw [h2.2] at h3
  exact h3

/-- Whatever order is picked from here on; S holds as long as z has not come up. -/
def wpAnyF (P : Program) (md : Region.Mode) (ops : Array Oper) (Q : Exit → Act → World → Prop) (S : World → Prop) (z : Nat) : Nat → Array Bool → Act → World → Prop
  | 0, listed, a, w => Region.ready md ops listed = [] ∧ Q .normal a w
  | fuel + 1, listed, a, w =>
    (Region.ready md ops listed = [] → Q .normal a w) ∧
    ∀ i ∈ Region.ready md ops listed, wpOp P ops Q i (fun a' w' => (i ≠ z → S w') ∧ wpAnyF P md ops Q S z fuel (listed.setIfInBounds i true) a' w') a w

theorem wpAny_of_F : ∀ (fuel : Nat) (listed : Array Bool) (a : Act) (w : World), wpAnyF P md ops Q S z fuel listed a w → wpAny P md ops Q fuel listed a w
  | 0, _, _, _, h => h
  | fuel + 1, _, _, _, h => ⟨h.1, fun i hi => wpOp_mono (fun a' w' h' => wpAny_of_F fuel _ a' w' h'.2) (h.2 i hi)⟩

theorem getD_two {listed : Array Bool} {i : Nat} (h0 : listed.getD i true = false) (h1 : listed.getD i false = true) : False := by
  rcases Nat.lt_or_ge i listed.size with h' | h'
  · simp [h'] at h0 h1; rw [h0] at h1; cases h1
  · simp [Array.getElem?_eq_none h'] at h1

theorem wpAnyF_first {i : Nat} {oi : Oper} {v : Value} (hi : ops[i]? = some oi) (hsel : ∀ (j : Nat) (o : Oper) cs b, ops[j]? = some o → o.op ≠ .select cs b)
    (hQ : ∀ c a w, Q (.panic c) (a.put oi.dst v) w → Q (.panic c) a w) (hz : waitsOn md ops z i = true) :
    ∀ (fuel : Nat) (listed : Array Bool) (a : Act) (w : World),
      (∀ j oj, ops[j]? = some oj → j ≠ i → listed.getD j true = false → (∀ e ∈ oj.after, Region.binds md e = true → e.on ≠ i) → oi.apart ops oj = true) →
      i ∈ Region.ready md ops listed → YieldsIf P ops S oi v a → S w →
      wpAnyF P md ops Q S z fuel (listed.setIfInBounds i true) (a.put oi.dst v) w → wpAnyF P md ops Q S z (fuel + 1) listed a w := by
  intro fuel
  induction fuel with
  | zero =>
    intro listed a w _ hr hy hS H
    refine ⟨fun h => (by rw [h] at hr; cases hr), fun j hj => ?_⟩
    by_cases hji : j = i
    · subst hji; exact hy.wpOp hi hS ⟨fun _ => hS, H⟩
    · have := ready_mono hj hji
      rw [H.1] at this
      cases this
  | succ fuel ih =>
    intro listed a w hfree hr hy hS H
    refine ⟨fun h => (by rw [h] at hr; cases hr), fun j hj => ?_⟩
    by_cases hji : j = i
    · subst hji; exact hy.wpOp hi hS ⟨fun _ => hS, H⟩
    · have h1 := H.2 j (ready_mono hj hji)
      obtain ⟨hjun, oj, hoj, hall⟩ := mem_ready.1 hj
      have hjz : j ≠ z := fun e => by
        subst e
        exact getD_two (mem_ready.1 hr).1 (waitsOn_spec hz hj)
      have hnot : ∀ e ∈ oj.after, Region.binds md e = true → e.on ≠ i := fun e he hb heq => by
        have h1 := hall e he hb
        rw [heq] at h1
        exact getD_two (mem_ready.1 hr).1 h1
      have h2 := wpOp_putIf hoj (hfree j oj hoj hji hjun hnot) (fun cs b => hsel i oi cs b hi) (fun cs b => hsel j oj cs b hoj) hQ hy h1
      have hfree' : ∀ k ok, ops[k]? = some ok → k ≠ i → (listed.setIfInBounds j true).getD k true = false →
          (∀ e ∈ ok.after, Region.binds md e = true → e.on ≠ i) → oi.apart ops ok = true := fun k ok hk hki hun hno => by
        refine hfree k ok hk hki ?_ hno
        by_cases hjk : j = k
        · subst hjk; exact hjun
        · rw [getD_set_ne true hjk] at hun; exact hun
      refine wpOp_mono (fun a' w' h3 => ⟨fun hne => h3.2.1 hne, ih (listed.setIfInBounds j true) a' w' hfree' (ready_mono hr (Ne.symm hji)) h3.1 (h3.2.1 hjz) ?_⟩) h2
      rw [Array.setIfInBounds_comm _ _ hji]
      exact h3.2.2

/-- Take number i first. -/
theorem wpAnyF_take (i : Nat) {oi : Oper} {v : Value} {fuel : Nat} {listed : Array Bool} {a : Act} {w : World} (hi : ops[i]? = some oi)
    (hs : Region.noSelect ops = true) (hw : waitsOn md ops z i = true) (hf : Region.free md ops listed i = true) (hr : (Region.ready md ops listed).contains i = true)
    (hQ : ∀ c a w, Q (.panic c) (a.put oi.dst v) w → Q (.panic c) a w) (hg : Region.wanted oi (yielded ops a.tmps) = true) (hy : ∀ w, S w → (execOp a.eval oi).run P w = .ok (.value v) w) (hS : S w)
    (h : wpAnyF P md ops Q S z fuel (listed.setIfInBounds i true) (a.put oi.dst v) w) : wpAnyF P md ops Q S z (fuel + 1) listed a w :=
  wpAnyF_first hi (Region.noSelect_spec hs) hQ hw fuel listed a w (Region.free_spec hi hf) (by simpa using hr) (Or.inl ⟨hg, hy⟩) hS h

def ReadyF (P : Program) (md : Region.Mode) (ops : Array Oper) (Q : Exit → Act → World → Prop) (S : World → Prop) (z : Nat) (fuel : Nat) (listed : Array Bool) (a : Act) (w : World) (rs : List Nat) : Prop :=
  ∀ i ∈ rs, wpOp P ops Q i (fun a' w' => (i ≠ z → S w') ∧ wpAnyF P md ops Q S z fuel (listed.setIfInBounds i true) a' w') a w
theorem ReadyF.nil {fuel : Nat} {listed : Array Bool} {a : Act} {w : World} : ReadyF P md ops Q S z fuel listed a w [] := fun _ h => by cases h
theorem ReadyF.cons {fuel : Nat} {listed : Array Bool} {a : Act} {w : World} {i : Nat} {o : Oper} {rs : List Nat} (ho : ops[i]? = some o)
    (h : ∀ K' : Act → World → Prop, Shut (∀ a w, (i ≠ z → S w) → wpAnyF P md ops Q S z fuel (listed.setIfInBounds i true) a w → K' a w) → if Region.wanted o (yielded ops a.tmps) = true then Oper.wp P o a w K' Q else K' (a.put o.dst undef) w)
    (hs : ReadyF P md ops Q S z fuel listed a w rs) : ReadyF P md ops Q S z fuel listed a w (i :: rs) := fun j hj => by
  rcases List.mem_cons.1 hj with rfl | hj
  · exact wpOp_step ho (fun K' hK => h K' (fun a w hS hW => hK a w ⟨hS, hW⟩))
  · exact hs j hj
/-- Whichever of those that may come up comes up. -/
theorem wpAnyF_ready (rs : List Nat) {fuel : Nat} {listed : Array Bool} {a : Act} {w : World} (hr : Region.ready md ops listed = rs) (hne : rs ≠ [])
    (h : ReadyF P md ops Q S z fuel listed a w rs) : wpAnyF P md ops Q S z (fuel + 1) listed a w :=
  ⟨fun h0 => absurd (hr ▸ h0) hne, hr ▸ h⟩
theorem wpAnyF_done {listed : Array Bool} {a : Act} {w : World} (hr : Region.ready md ops listed = []) (h : Q .normal a w) :
    ∀ fuel, wpAnyF P md ops Q S z fuel listed a w
  | 0 => ⟨hr, h⟩
  | _ + 1 => ⟨fun _ => h, by rw [hr]; simp⟩
/-- The same two, the operation read off the list. -/
theorem wpAnyF_takeL {l : List Oper} {S : World → Prop} {z : Nat} (i : Nat) {oi : Oper} {v : Value} {fuel : Nat} {listed : Array Bool} {a : Act} {w : World} (hi : l[i]? = some oi)
    (hs : Region.noSelect l.toArray = true) (hw : waitsOn md l.toArray z i = true) (hf : Region.free md l.toArray listed i = true) (hr : (Region.ready md l.toArray listed).contains i = true)
    (hQ : ∀ c a w, Q (.panic c) (a.put oi.dst v) w → Q (.panic c) a w) (hg : Region.wanted oi (yielded l.toArray a.tmps) = true) (hy : ∀ w, S w → (execOp a.eval oi).run P w = .ok (.value v) w) (hS : S w)
    (h : wpAnyF P md l.toArray Q S z fuel (listed.setIfInBounds i true) (a.put oi.dst v) w) : wpAnyF P md l.toArray Q S z (fuel + 1) listed a w :=
  wpAnyF_take i (by simpa using hi) hs hw hf hr hQ hg hy hS h
theorem ReadyF.consL {l : List Oper} {S : World → Prop} {z : Nat} {fuel : Nat} {listed : Array Bool} {a : Act} {w : World} {i : Nat} {o : Oper} {rs : List Nat} (ho : l[i]? = some o)
    (h : ∀ K' : Act → World → Prop, Shut (∀ a w, (i ≠ z → S w) → wpAnyF P md l.toArray Q S z fuel (listed.setIfInBounds i true) a w → K' a w) → if Region.wanted o (yielded l.toArray a.tmps) = true then Oper.wp P o a w K' Q else K' (a.put o.dst undef) w)
    (hs : ReadyF P md l.toArray Q S z fuel listed a w rs) : ReadyF P md l.toArray Q S z fuel listed a w (i :: rs) := ReadyF.cons (by simpa using ho) h hs
/-- The same, of an operation that is known to yield. -/
theorem wpAnyF_takeY {l : List Oper} {S : World → Prop} {z : Nat} (i : Nat) {oi : Oper} {v : Value} {fuel : Nat} {listed : Array Bool} {a : Act} {w : World} (hi : l[i]? = some oi)
    (hs : Region.noSelect l.toArray = true) (hw : waitsOn md l.toArray z i = true) (hf : Region.free md l.toArray listed i = true) (hr : (Region.ready md l.toArray listed).contains i = true)
    (hQ : ∀ c a w, Q (.panic c) (a.put oi.dst v) w → Q (.panic c) a w) (hy : YieldsIf P l.toArray S oi v a) (hS : S w)
    (h : wpAnyF P md l.toArray Q S z fuel (listed.setIfInBounds i true) (a.put oi.dst v) w) : wpAnyF P md l.toArray Q S z (fuel + 1) listed a w :=
  wpAnyF_first (by simpa using hi) (Region.noSelect_spec hs) hQ hw fuel listed a w (Region.free_spec (by simpa using hi) hf) (by simpa using hr) hy hS h
theorem wp_region_F (S : World → Prop) (z : Nat) {id : Nat} {a : Act} {w : World} (hm : P.follows .mixedOrders = true)
    (h : wpAnyF P .any ops Q S z ops.size (Array.replicate ops.size false) a w.drew) : (Code.region id ops true).wp P Q a w :=
  wp_region_any hm (wpAny_of_F _ _ _ _ h)
end

end Go.Proofs.Ytceflhffilldeaa

/-
  'append(s, t...)' onto an own row that is not nil, whatever t is and however many cells an element has.
-/
namespace Go.Proofs.Ytceflhffilldeaa
set_option linter.unusedVariables false
set_option linter.unusedSimpArgs false
open Go.RowKit

theorem aa_nothing {P : Program} (w : World) (t ty e : TypeId) (n cap c g : Nat) (hn : n ≤ cap) (ht : P.underlying t = some (.slice e)) (i : TypeInfo) (hi : P.info? e = some i) (hh : ∃ cur t' fr, w.heap[g]? = some (.cells cur t' fr)) :
    (Builtin.append_ #[t, t] ty #[.slice (some ⟨g, 0, none⟩) n cap, .slice none 0 c]).run P w = .ok (.slice (some ⟨g, 0, none⟩) n cap) w := by
  simp [Builtin.append_, run_underlying ht, sizeOf, typeInfo, hi, Builtin.lenOf, Builtin.firstCells, storeCells, hn]
/-- The slice v is of these m elements' cells. -/
def SrcIs (w : World) (v : Value) (m : Nat) (news : List Value) : Prop := ∃ A c, v = .slice A m c ∧ (A = none → m = 0) ∧ ∀ ad, A = some ad → ∀ j u, news[j]? = some u → w.cell? (ad.add j) = some u
theorem wp_app_any {P : Program} {o : Oper} {a : Act} {K : Act → World → Prop} {Q : Exit → Act → World → Prop} (W : World) (s x : Operand) (t e : TypeId)
    (hop : o.op = .call { callee := .builtin .append, args := #[s, x], argTypes := #[t, t] }) (size bytes : Nat) (z : Value) (ht : P.underlying t = some (.slice e))
    (info : (P.info? e).map (fun i => (i.zero, i.size, i.bytes)) = some (some z, size, bytes)) (hzs : z.cells.size = size) (hsz : 0 < size) (base : Nat) (hb0 : base ≤ W.heap.size) (g0 c0 n : Nat) (xs : List Value)
    (own0 : W.ownsRow base e size (.slice (some ⟨g0, 0, none⟩) n c0) n xs) (m : Nat) (news : List Value) (v : Value) (hs : a.eval s = .slice (some ⟨g0, 0, none⟩) n c0) (hx : a.eval x = v) (hr : SrcIs W v m news) (hl : news.length = m * size) (h1 : ∀ u ∈ news, u.oneCell' = true)
    (h63 : n + m ≤ 9223372036854775807) (hbytes : (n + m) * bytes ≤ 140737488355328)
    (hK : ∀ g c w2, w2.ownsRow base e size (.slice (some ⟨g, 0, none⟩) (n + m) c) (n + m) (xs ++ news) → W.grownBy w2 (some g0) → K (a.put o.dst (.slice (some ⟨g, 0, none⟩) (n + m) c)) w2) : o.wp P a W K Q := by
  obtain ⟨i0, hi0, hz0, hz1, hz2⟩ := info_parts info
  obtain ⟨A, c, rfl, hN, hA⟩ := hr
  rcases A with _ | ad
  · have h0 : m = 0 := hN rfl
    subst h0
    have hn0 : news = [] := List.eq_nil_of_length_eq_zero (by rw [hl, Nat.zero_mul])
    subst hn0
    have hcap : n ≤ c0 ∧ ∃ cur t' fr, W.heap[g0]? = some (.cells cur t' fr) := by
      rcases own0.2 with ⟨h1, _⟩ | ⟨g', cap, cur, hv, hb', hh, hn, hc', hs', ht'⟩
      · cases h1
      · injection hv with h1 h2 h3
        injection h1 with h1
        injection h1 with h1
        subst h1 h3
        exact ⟨hn, _, _, _, hh⟩
    have HN := fun ty => aa_nothing (P := P) W t ty e n c0 c g0 hcap.1 ht i0 hi0 hcap.2
    have hk := hK g0 c0 W (by simpa using own0) (World.grownBy.refl W _)
    unfold Oper.wp execOp
    simp only [hop, resolve, invoke, builtin, Sem.run_bind, Sem.run_pure, Result.andThen_ok, List.map_toArray, List.map_cons, List.map_nil, hs, hx, List.length_nil, HN]
    exact hk
  · obtain ⟨v2, w2, hrun, ho2, hg2, hn2⟩ := run_append_own (P := P) (w := W) base t o.type e i0 _ size bytes ht hi0 hz0 hz1 hz2 hzs hsz _ n xs own0 ad m c news hl (hA ad rfl) h1 (by simp only [maxLen]; omega) hbytes hb0
    unfold Oper.wp execOp
    simp only [hop, resolve, invoke, builtin, Sem.run_bind, Sem.run_pure, Result.andThen_ok, List.map_toArray, List.map_cons, List.map_nil, hs, hx, hrun]
    rcases ho2.2 with ⟨rfl, h2⟩ | ⟨g, cap, cur, rfl, hg', hh, r⟩
    · have := (hn2.1 rfl).1
      cases this
    · exact hK g cap w2 ho2 hg2
theorem step_app_any {P : Program} {ops : Array Oper} {o : Oper} {a : Act} {K : Act → World → Prop} {Q : Exit → Act → World → Prop} {E : Prop} (W : World) (hgd : o.guard = none) (s x : Operand) (t e : TypeId)
    (hop : o.op = .call { callee := .builtin .append, args := #[s, x], argTypes := #[t, t] }) (size bytes : Nat) (z : Value) (ht : P.underlying t = some (.slice e))
    (info : (P.info? e).map (fun i => (i.zero, i.size, i.bytes)) = some (some z, size, bytes)) (hzs : z.cells.size = size) (hsz : 0 < size) (base : Nat) (hb0 : base ≤ W.heap.size) (g0 c0 n : Nat) (xs : List Value)
    (own0 : W.ownsRow base e size (.slice (some ⟨g0, 0, none⟩) n c0) n xs) (m : Nat) (news : List Value) (v : Value) (hs : a.eval s = .slice (some ⟨g0, 0, none⟩) n c0) (hx : a.eval x = v) (hr : SrcIs W v m news) (hl : news.length = m * size) (h1 : ∀ u ∈ news, u.oneCell' = true)
    (h63 : n + m ≤ 9223372036854775807) (hbytes : (n + m) * bytes ≤ 140737488355328)
    (hK : ∀ g c w2, w2.ownsRow base e size (.slice (some ⟨g, 0, none⟩) (n + m) c) (n + m) (xs ++ news) → W.grownBy w2 (some g0) → K (a.put o.dst (.slice (some ⟨g, 0, none⟩) (n + m) c)) w2) :
    if Region.wanted o (yielded ops a.tmps) = true then Oper.wp P o a W K Q else E := by
  have hw : Region.wanted o (yielded ops a.tmps) = true := by simp [Region.wanted, hgd]
  rw [if_pos hw]
  exact wp_app_any W s x t e hop size bytes z ht info hzs hsz base hb0 g0 c0 n xs own0 m news v hs hx hr hl h1 h63 hbytes hK
/-- A new empty row is one's own. -/
theorem own_empty {W : World} {base : Nat} (hb : base ≤ W.heap.size) (e : TypeId) (size : Nat) : (W.alloc (.cells #[] e)).ownsRow base e size (.slice (some ⟨W.heap.size, 0, none⟩) 0 0) 0 [] := ⟨by simp, Or.inr ⟨W.heap.size, 0, _, rfl, hb, heap_alloc_new W _, Nat.le_refl _, by decide, by simp, by simp⟩⟩

end Go.Proofs.Ytceflhffilldeaa
