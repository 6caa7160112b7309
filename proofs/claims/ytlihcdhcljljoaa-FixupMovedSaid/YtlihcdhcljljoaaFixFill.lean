/-
  fixup.Fill, walked.
-/
import Derived.Test.YtlihcdhcljljoaaFixChain
import Derived.Test.YtlihcdhcljljoaaFixMap
import Derived.Test.YtlihcdhcljljoaaClone
import Derived.Test.YtlihcdhcljljoaaImage
namespace Go.Proofs.Ytlihcdhcljljoaa
set_option linter.unusedVariables false
set_option linter.unusedSimpArgs false
open Go.RowKit Bw

def Fx.flist (code : List Int) (head at_ : Int) (D : DataW Unit) : List Int := (Fx.fill code head at_ (pval D) (phas D)).getD []
def Fx.ferr (code : List Int) (head at_ : Int) (D : DataW Unit) : Int := if (Fx.fill code head at_ (pval D) (phas D)).isSome = true then 0 else 220
theorem ferr_none {code : List Int} {head at_ : Int} {D : DataW Unit} (h : Fx.fill code head at_ (pval D) (phas D) = none) : Fx.ferr code head at_ D = 220 ∧ Fx.flist code head at_ D = [] := by
  rw [Fx.ferr, Fx.flist, h]; exact ⟨rfl, rfl⟩
theorem ferr_some {code l : List Int} {head at_ : Int} {D : DataW Unit} (h : Fx.fill code head at_ (pval D) (phas D) = some l) : Fx.ferr code head at_ D = 0 ∧ Fx.flist code head at_ D = l := by
  rw [Fx.ferr, Fx.flist, h]; exact ⟨rfl, rfl⟩
/-- What Fill leaves. -/
def FillEnd (base : Nat) (code : List Int) (head at_ : Int) (D : DataW Unit) (e : Ending) (w : World) : Prop :=
  ∃ v, e = .returned (.tuple #[v, .int .i64 (Fx.ferr code head at_ D)]) ∧ w.ownsRow base 30 1 v (Fx.flist code head at_ D).length ((Fx.flist code head at_ D).map (Value.int .u32))
theorem fillEnd_none {base : Nat} {code : List Int} {head at_ : Int} {D : DataW Unit} (w : World) (h : Fx.fill code head at_ (pval D) (phas D) = none) : FillEnd base code head at_ D (.returned (.tuple #[.slice none 0 0, .int .i64 220])) w := by
  obtain ⟨h1, h2⟩ := ferr_none h
  rw [FillEnd, h1, h2]
  exact ⟨_, rfl, World.ownsRow_nil _ _ _ _⟩
theorem fillEnd_some {base : Nat} {code l : List Int} {head at_ : Int} {D : DataW Unit} {w : World} {v : Value} (h : Fx.fill code head at_ (pval D) (phas D) = some l) (hown : w.ownsRow base 30 1 v l.length (l.map (Value.int .u32))) : FillEnd base code head at_ D (.returned (.tuple #[v, .int .i64 0])) w := by
  obtain ⟨h1, h2⟩ := ferr_some h
  rw [FillEnd, h1, h2]
  exact ⟨_, rfl, hown⟩
theorem own_from {w : World} {b b' : Nat} {e : TypeId} {size n : Nat} {v : Value} {xs : List Value} (h : w.ownsRow b e size v n xs) (hb : b' ≤ b) : w.ownsRow b' e size v n xs := by
  refine ⟨h.1, ?_⟩
  rcases h.2 with h2 | ⟨g, cap, cur, hv, hg, hh, r⟩
  · exact Or.inl h2
  · exact Or.inr ⟨g, cap, cur, hv, Nat.le_trans hb hg, hh, r⟩
theorem fills_cons (code : List Int) (at_ : Int) (V : Int → Int → Int → Int) (H : Int → Int → Int → Bool) (l out : List Int) (k : Nat) (hk : k < l.length) :
    Fx.fills code at_ V H (l.drop k) out = (if H (Fx.sort (code.getD (l.getD k 0).toNat 0)) (Fx.mod (code.getD (l.getD k 0).toNat 0)) (code.getD ((l.getD k 0).toNat + 1) 0) = true ∧ Fx.okTo (V (Fx.sort (code.getD (l.getD k 0).toNat 0)) (Fx.mod (code.getD (l.getD k 0).toNat 0)) (code.getD ((l.getD k 0).toNat + 1) 0)) = true then
      Fx.fills code at_ V H (l.drop (k + 1)) ((out.set (l.getD k 0).toNat (Fx.ins1 (code.getD (l.getD k 0).toNat 0) (at_ + l.getD k 0) (V (Fx.sort (code.getD (l.getD k 0).toNat 0)) (Fx.mod (code.getD (l.getD k 0).toNat 0)) (code.getD ((l.getD k 0).toNat + 1) 0))).E).set ((l.getD k 0).toNat + 1) (Fx.ins2 (code.getD (l.getD k 0).toNat 0) (V (Fx.sort (code.getD (l.getD k 0).toNat 0)) (Fx.mod (code.getD (l.getD k 0).toNat 0)) (code.getD ((l.getD k 0).toNat + 1) 0))).E)
    else none) := by
  rw [List.drop_eq_getElem_cons hk, Fx.fills]
  simp only [List.getD_eq_getElem?_getD, List.getElem?_eq_getElem hk, Option.getD_some]

theorem fc_and65535 (n : Int) : bits .and .i64 n 65535 = n % 65536 := by
  have h127 : (BitVec.ofInt 64 65535).toNat = 2 ^ 16 - 1 := by decide
  have key : (BitVec.ofInt 64 n &&& BitVec.ofInt 64 65535).toNat = (n % ((2 ^ 64 : Nat) : Int)).toNat % 2 ^ 16 := by
    rw [BitVec.toNat_and, BitVec.toNat_ofInt, h127, Nat.and_two_pow_sub_one_eq_mod]
  show IntKind.i64.wrap ((BitVec.ofInt 64 n &&& BitVec.ofInt 64 65535).toNat : Nat) = n % 65536
  rw [key, IntKind.wrap_i64]
  omega
theorem ins_fits {x : Ins} (h : x.good = true) : x.fits := by
  have hr := Ins.good_range x h
  have hi : -9223372036854775808 ≤ x.im ∧ x.im ≤ 9223372036854775807 := by
    obtain ⟨form, u, v, a, b, c, op, im⟩ := x
    simp only at hr ⊢
    have h4 : form = 0 ∨ form = 1 ∨ form = 2 ∨ form = 3 := by omega
    rcases h4 with rfl | rfl | rfl | rfl
    · have := Ins.good_im0 u v a b c op im h; omega
    · have := Ins.good_im1 u v a b c op im h; omega
    · have := Ins.good_im2 u v a b c op im h; omega
    · have := Ins.good_im3 u v a b c op im h; omega
  unfold Ins.fits
  omega

set_option maxRecDepth 100000 in
set_option maxHeartbeats 4000000 in
theorem fix_fill (code : List Int) (head at_ : Int) (cv m : Value) (n : Nat) (D : DataW Unit) (w : World) (hr : Row .u32 w cv code) (hu : U32s code) (hs : code.length ≤ 65536) (hm : PMap w m n D) (h0 : -9223372036854775808 ≤ head) (h1 : head ≤ 9223372036854775807) (a0 : -9223372036854775808 ≤ at_) (a1 : at_ ≤ 9223372036854775807) :
    Calls Try.prog 24 #[cv, .int .i64 head, .int .i64 at_, m] w fun e w' => FillEnd w.heap.size code head at_ D e w' ∧ Below w.heap.size w w' := by
  have hr' := Lib.hid hr
  obtain ⟨hm_, A, c, rfl, -⟩ := hr
  have hu' := Lib.hid hu
  have hm' := Lib.hid hm
  clear hu hm
  go_enter Try.func24, Try.ntmps24
  go_wp2_with fail
  refine (fix_chain code head _ _ hr'.out hu'.out hs h0 h1).mono ?_
  rintro e w1 ⟨⟨v1, rfl, hown1⟩, B1⟩
  cases hch : Fx.chain code head with
  | none =>
    obtain ⟨e1, e2⟩ := cerr_none hch
    rw [e1]
    have hres := Lib.hid (show Fx.fill code head at_ (pval D) (phas D) = none by rw [Fx.fill, hch])
    clear e1 e2 hown1
    go_wp2_with fail
    go_ret2
    exact ⟨fillEnd_none _ hres.out, B1⟩
  | some l =>
    obtain ⟨e1, e2⟩ := cerr_some hch
    rw [e1]
    rw [e2] at hown1
    have hgood := Lib.hid (Fx.chain_good hch)
    obtain ⟨-, A1, c1, rfl, hl⟩ := row_of_own hown1
    have hl := Lib.hid hl
    have hown1 := Lib.hid hown1
    have hllen := hgood.out.len
    have hfe : RowKit.Hid (Fx.fill code head at_ (pval D) (phas D) = if Fx.mayAt code.length at_ = true then Fx.fills code at_ (pval D) (phas D) l code else none) := Lib.hid (by rw [Fx.fill, hch])
    clear e1 e2 hch
    cases hmay : Fx.mayAt code.length at_
    · have hres := Lib.hid (show Fx.fill code head at_ (pval D) (phas D) = none by rw [hfe.out, hmay]; rfl)
      have hno : at_ < 0 ∨ (0 ≤ at_ ∧ 65536 < at_) ∨ (0 ≤ at_ ∧ at_ ≤ 65536 ∧ 65536 - at_ < (code.length : Int)) := by
        have : ¬ (0 ≤ at_ ∧ at_ ≤ 65536 ∧ (code.length : Int) ≤ 65536 - at_) := by simpa [Fx.mayAt] using hmay
        omega
      clear hmay hfe
      rcases hno with h | ⟨h, h'⟩ | ⟨h, h', h''⟩
      · go_wp2_with fail
        go_ret2
        exact ⟨fillEnd_none _ hres.out, B1⟩
      · go_wp2_with fail
        go_ret2
        exact ⟨fillEnd_none _ hres.out, B1⟩
      · go_wp2_with fail
        go_ret2
        exact ⟨fillEnd_none _ hres.out, B1⟩
    · rw [hmay, if_pos rfl] at hfe
      obtain ⟨m0, m1, m2⟩ : 0 ≤ at_ ∧ at_ ≤ 65536 ∧ (code.length : Int) ≤ 65536 - at_ := by simpa [Fx.mayAt] using hmay
      clear hmay
      go_wp2_with fail
      refine (slices_clone code _ _ (hr'.out.below B1) (by omega)).mono ?_
      rintro e w2 ⟨v2, rfl, hown2, B2⟩
      obtain ⟨-, A2, c2, rfl, -⟩ := row_of_own hown2
      have hown2 := Lib.hid hown2
      go_wp2_with fail
      go_loopw [50] (fun i wr => ∃ (k : Nat) (out : List Int), i = .int .i64 k ∧ k ≤ l.length ∧ out.length = code.length ∧ RowKit.Hid (wr.ownsRow w1.heap.size 30 1 (.slice A2 code.length c2) code.length (out.map (Value.int .u32))) ∧ Below w1.heap.size w1 wr ∧ RowKit.Hid (Fx.fills code at_ (pval D) (phas D) (l.drop k) out = Fx.fill code head at_ (pval D) (phas D))) (fun i _ => l.length - (intOf i).toNat)
      case atStart => exact ⟨0, code, rfl, by omega, rfl, hown2, B2, Lib.hid (by rw [hfe.out]; rfl)⟩
      case round =>
        obtain ⟨k, out, rfl, hk, hol, hown, hb, hf⟩ := hrel
        clear hfe hown2 B2
        have hol := Lib.hid hol
        have Bw := B1.trans (hb.mono B1.size)
        by_cases hlt : (k : Int) < (l.length : Int)
        · have hklt : k < l.length := by omega
          obtain ⟨g1, g2, g3, -⟩ := hgood.out k hklt
          have hcons := Lib.hid (hf.out.symm.trans (fills_cons code at_ (pval D) (phas D) l out k hklt))
          obtain ⟨al, rfl, hal, hcl⟩ := hl.out k hklt
          have hcl : wr.cell? (al.add k) = some (.int .i64 (l.getD k 0)) := (hb.cell (p := al.add k) (by rw [block_add]; exact hal)).trans hcl
          clear hl hown1 hf
          generalize l.getD k 0 = p at *
          obtain ⟨pn, rfl⟩ : ∃ pn : Nat, p = pn := ⟨p.toNat, by omega⟩
          rw [Int.toNat_natCast] at g3
          simp only [Int.toNat_natCast] at hcons
          obtain ⟨-, A3, c3, e3, hc3⟩ := hr'.out.below Bw
          injection e3 with e3 _ e4
          subst e3 e4
          obtain ⟨ad, rfl, had, hcx⟩ := hc3 pn (by omega)
          obtain ⟨ad', e5, -, hcy⟩ := hc3 (pn + 1) (by omega)
          injection e5 with e5
          subst e5
          clear hc3
          have hx := hu'.out pn (by omega)
          have hy := hu'.out (pn + 1) (by omega)
          have FP := fun W => Lib.hid (fix_parts (code.getD pn 0) W hx.1 hx.2)
          have hrb := Fx.reg_bd _ hx
          have hsb := Fx.sort_bd (code.getD pn 0)
          have hmb := Fx.mod_bd (code.getD pn 0)
          have hi1 := fun to h => Lib.hid (Fx.ins1_good (code.getD pn 0) (at_ + pn) to hx h (by omega))
          have hi2 := fun to h => Lib.hid (Fx.ins2_good (code.getD pn 0) to hx h)
          have hi1d : ∀ to, Fx.ins1 (code.getD pn 0) (at_ + pn) to = if Fx.sort (code.getD pn 0) = 0 then ⟨3, true, true, 7, 0, 0, 0, to - (at_ + pn) - 1⟩ else ⟨1, true, false, Fx.reg (code.getD pn 0), 0, 0, 0, 4 * to / 65536⟩ := fun to => rfl
          have hi2d : ∀ to, Fx.ins2 (code.getD pn 0) to = if Fx.sort (code.getD pn 0) = 0 then Ins.zero else ⟨1, false, false, Fx.reg (code.getD pn 0), Fx.reg (code.getD pn 0), 0, 6, 4 * to % 65536⟩ := fun to => rfl
          have LK := fun W hW => Lib.hid ((hm'.out.below (w' := W) hW).look (a := Fx.sort (code.getD pn 0)) (b := Fx.mod (code.getD pn 0)) (c := code.getD (pn + 1) 0) (by unfold In64; omega) (by unfold In64; omega) (by unfold In64; omega))
          generalize code.getD pn 0 = x at *
          generalize code.getD (pn + 1) 0 = y at *
          generalize Fx.ins1 x (at_ + pn) = f1 at *
          generalize Fx.ins2 x = f2 at *
          generalize Fx.reg x = xr at *
          generalize Fx.sort x = xs at *
          generalize Fx.mod x = xm at *
          generalize Fx.back x = xb at *
          generalize pval D xs xm y = to at *
          generalize phas D xs xm y = hs_ at *
          go_wp2_with fail
          refine (FP _).out.mono ?_
          rintro e w3 ⟨rfl, kp⟩
          rw [g3]
          have B3 : Below w.heap.size w w3 := Bw.trans kp.all_below
          have B3' : Below w1.heap.size w1 w3 := hb.trans kp.all_below
          have hown3 := Lib.hid (own_below hown.out kp.all_below)
          obtain ⟨hlk, ht⟩ := (LK w3 B3).out
          have hcy3 : w3.cell? ⟨ad.block, ad.off + (pn + 1), none⟩ = some (.int .u32 y) := (kp.cell (p := ad.add (pn + 1)) trivial).trans hcy
          have had3 : ad.block < w3.heap.size := Nat.lt_of_lt_of_le had kp.size
          clear kp hcl hcx hcy FP LK hown hb Bw had
          by_cases hgo : hs_ = true ∧ Fx.okTo to = true
          · obtain ⟨rfl, hto⟩ := hgo
            have hres := Lib.hid (hcons.out.trans (if_pos ⟨rfl, hto⟩))
            have t0 : 0 ≤ to ∧ to < 65536 := by simpa [Fx.okTo] using hto
            obtain ⟨t0, t1⟩ := t0
            have j1 := hi1 to hto
            have j2 := hi2 to hto
            have d1 := Lib.hid (hi1d to)
            have d2 := Lib.hid (hi2d to)
            clear hcons hi1 hi2 hi1d hi2d hto ht
            generalize f1 to = i1 at *
            generalize f2 to = i2 at *
            by_cases hxs : xs = 0
            · have hxs' : (xs != 0) = false := by simp [hxs]
              have d1 := Lib.hid (d1.out.trans (if_pos hxs))
              have d2 := Lib.hid (d2.out.trans (if_pos hxs))
              clear hxs
              have E1 := fun W => Lib.hid (risc_encode_any i1 W (ins_fits j1.out))
              have E2 := fun W => Lib.hid (risc_encode_any i2 W (ins_fits j2.out))
              have v1 : i1.val = .agg #[.int .i64 3, .bool true, .bool true, .int .i64 7, .int .i64 0, .int .i64 0, .int .i64 0, .int .i64 (to - (at_ + pn + 1))] := by rw [d1.out, show to - (at_ + (pn : Int) + 1) = to - (at_ + (pn : Int)) - 1 by omega]; rfl
              have v2 : i2.val = .agg #[.int .i64 0, .bool false, .bool false, .int .i64 0, .int .i64 0, .int .i64 0, .int .i64 0, .int .i64 0] := by rw [d2.out]; rfl
              rw [v1] at E1
              rw [v2] at E2
              have Q3 : w.heap.size ≤ w3.heap.size := B3.size
              have O3 := Lib.hid ((hown3.out.alloc (.cells #[.int .i64 3, .bool true, .bool true, .int .i64 7, .int .i64 0, .int .i64 0, .int .i64 0, .int .i64 (to - (at_ + pn + 1))] 32)).alloc (.cells #[.int .i64 0, .bool false, .bool false, .int .i64 0, .int .i64 0, .int .i64 0, .int .i64 0, .int .i64 0] 32))
              have Z3 : Blk ((w3.alloc (.cells #[.int .i64 3, .bool true, .bool true, .int .i64 7, .int .i64 0, .int .i64 0, .int .i64 0, .int .i64 (to - (at_ + pn + 1))] 32)).alloc (.cells #[.int .i64 0, .bool false, .bool false, .int .i64 0, .int .i64 0, .int .i64 0, .int .i64 0, .int .i64 0] 32)) (w3.heap.size + 1) 32 #[.int .i64 0, .bool false, .bool false, .int .i64 0, .int .i64 0, .int .i64 0, .int .i64 0, .int .i64 0] := by
                have := Blk.new (w3.alloc (.cells #[.int .i64 3, .bool true, .bool true, .int .i64 7, .int .i64 0, .int .i64 0, .int .i64 0, .int .i64 (to - (at_ + pn + 1))] 32)) 32 #[.int .i64 0, .bool false, .bool false, .int .i64 0, .int .i64 0, .int .i64 0, .int .i64 0, .int .i64 0]
                rwa [World.size_alloc] at this
              have Z3 := Lib.hid Z3
              have X3 : w3.heap.size + 1 < ((w3.alloc (.cells #[.int .i64 3, .bool true, .bool true, .int .i64 7, .int .i64 0, .int .i64 0, .int .i64 0, .int .i64 (to - (at_ + pn + 1))] 32)).alloc (.cells #[.int .i64 0, .bool false, .bool false, .int .i64 0, .int .i64 0, .int .i64 0, .int .i64 0, .int .i64 0] 32)).heap.size := by simp
              have B4 : Below w1.heap.size w1 ((w3.alloc (.cells #[.int .i64 3, .bool true, .bool true, .int .i64 7, .int .i64 0, .int .i64 0, .int .i64 0, .int .i64 (to - (at_ + pn + 1))] 32)).alloc (.cells #[.int .i64 0, .bool false, .bool false, .int .i64 0, .int .i64 0, .int .i64 0, .int .i64 0, .int .i64 0] 32)) := (B3'.alloc B3'.size _).alloc (Nat.le_trans B3'.size (by simp)) _
              have Q4 : w1.heap.size ≤ w3.heap.size := B3'.size
              have zsz : (Try.prog.info? 32).map (·.size) = some 8 := by kernel_rfl
              have zsz := Lib.hid zsz
              have jb1 := Lib.hid (Ins.E_bd i1)
              have jb2 := Lib.hid (Ins.E_bd i2)
              have L3 := Lib.hid hown3.out.lt
              clear d1 d2 v1 v2 B3' hown3
              go_wp2_with fail
              generalize (w3.alloc (.cells #[.int .i64 3, .bool true, .bool true, .int .i64 7, .int .i64 0, .int .i64 0, .int .i64 0, .int .i64 (to - (at_ + pn + 1))] 32)).alloc (.cells #[.int .i64 0, .bool false, .bool false, .int .i64 0, .int .i64 0, .int .i64 0, .int .i64 0, .int .i64 0] 32) = w4 at *
              refine (E1 _).out.mono ?_
              rintro e w5 ⟨rfl, hb5⟩
              have O5 := own_below O3.out hb5
              obtain ⟨gg, cc, ef, fg0, fg1⟩ := O5.form (by omega)
              injection ef with ef _ ef2
              subst ef ef2
              have fz := O5.frozenAt pn
              have cl := O5.cellAt pn (by omega)
              have O6 := (O5.stored pn (.int .u32 i1.E)).1
              rw [← List.map_set] at O6
              rw [List.getElem?_map, List.getElem?_eq_getElem (by have := hol.out; omega)] at cl
              simp only [Option.map_some] at cl
              have B5 : Below w1.heap.size w1 (w5.setCell ⟨gg, pn, none⟩ (.int .u32 i1.E)) := (B4.trans (hb5.mono B4.size)).setCell (p := ⟨gg, pn, none⟩) fg0 _
              have Z5 : Blk w5 (w3.heap.size + 1) 32 #[.int .i64 0, .bool false, .bool false, .int .i64 0, .int .i64 0, .int .i64 0, .int .i64 0, .int .i64 0] := Z3.out.below hb5 X3
              have ng : gg ≠ w3.heap.size + 1 := by
                have := (L3.out gg rfl).2
                omega
              have Z6 := Lib.hid (Z5.far (p := ⟨gg, pn, none⟩) (fun e => ng e.symm) (.int .u32 i1.E))
              have O6 := Lib.hid O6
              have hb6' := B5.size
              clear O5 Z5 Z3 O3 hb5 B4
              go_wp2_with (refine wpList_load_row rfl 32 (.tmp 23) rfl (w3.heap.size + 1) rfl 32 #[.int .i64 0, .bool false, .bool false, .int .i64 0, .int .i64 0, .int .i64 0, .int .i64 0, .int .i64 0] (0, 0) _ Z6.out Try.underlying32 rfl zsz.out ?_)
              generalize w5.setCell ⟨gg, pn, none⟩ (.int .u32 i1.E) = w6 at *
              refine (E2 _).out.mono ?_
              rintro e w7 ⟨rfl, hb7⟩
              have O7 := own_below O6.out hb7
              have fz7 := O7.frozenAt (pn + 1)
              have cl7 := O7.cellAt (pn + 1) (by omega)
              have O8 := (O7.stored (pn + 1) (.int .u32 i2.E)).1
              rw [← List.map_set] at O8
              rw [List.getElem?_map, List.getElem?_eq_getElem (by have := hol.out; simp; omega)] at cl7
              simp only [Option.map_some] at cl7
              have B8 : Below w1.heap.size w1 (w7.setCell ⟨gg, pn + 1, none⟩ (.int .u32 i2.E)) := (B5.trans (hb7.mono B5.size)).setCell (p := ⟨gg, pn + 1, none⟩) fg0 _
              have O8 := Lib.hid O8
              clear O7 O6 Z6 hb7 B5
              go_wp2_with fail
              refine ⟨⟨k + 1, (out.set pn i1.E).set (pn + 1) i2.E, by go_num, by omega, by simp [hol.out], O8, B8, Lib.hid hres.out.symm⟩, ?_⟩
              simp only [intOf]
              omega
            · have hxs' : (xs != 0) = true := by simp [hxs]
              have d1 := Lib.hid (d1.out.trans (if_neg hxs))
              have d2 := Lib.hid (d2.out.trans (if_neg hxs))
              clear hxs
              have E1 := fun W => Lib.hid (risc_encode_any i1 W (ins_fits j1.out))
              have E2 := fun W => Lib.hid (risc_encode_any i2 W (ins_fits j2.out))
              have v1 : i1.val = .agg #[.int .i64 1, .bool true, .bool false, .int .i64 xr, .int .i64 0, .int .i64 0, .int .i64 0, .int .i64 (4 * to / 65536)] := by rw [d1.out]; rfl
              have v2 : i2.val = .agg #[.int .i64 1, .bool false, .bool false, .int .i64 xr, .int .i64 xr, .int .i64 0, .int .i64 6, .int .i64 (bits BinOp.and .i64 (4 * to) 65535)] := by rw [d2.out, fc_and65535]; rfl
              rw [v1] at E1
              rw [v2] at E2
              have Q3 : w.heap.size ≤ w3.heap.size := B3.size
              have O3 := Lib.hid ((hown3.out.alloc (.cells #[.int .i64 1, .bool true, .bool false, .int .i64 xr, .int .i64 0, .int .i64 0, .int .i64 0, .int .i64 (4 * to / 65536)] 32)).alloc (.cells #[.int .i64 1, .bool false, .bool false, .int .i64 xr, .int .i64 xr, .int .i64 0, .int .i64 6, .int .i64 (bits BinOp.and .i64 (4 * to) 65535)] 32))
              have Z3 : Blk ((w3.alloc (.cells #[.int .i64 1, .bool true, .bool false, .int .i64 xr, .int .i64 0, .int .i64 0, .int .i64 0, .int .i64 (4 * to / 65536)] 32)).alloc (.cells #[.int .i64 1, .bool false, .bool false, .int .i64 xr, .int .i64 xr, .int .i64 0, .int .i64 6, .int .i64 (bits BinOp.and .i64 (4 * to) 65535)] 32)) (w3.heap.size + 1) 32 #[.int .i64 1, .bool false, .bool false, .int .i64 xr, .int .i64 xr, .int .i64 0, .int .i64 6, .int .i64 (bits BinOp.and .i64 (4 * to) 65535)] := by
                have := Blk.new (w3.alloc (.cells #[.int .i64 1, .bool true, .bool false, .int .i64 xr, .int .i64 0, .int .i64 0, .int .i64 0, .int .i64 (4 * to / 65536)] 32)) 32 #[.int .i64 1, .bool false, .bool false, .int .i64 xr, .int .i64 xr, .int .i64 0, .int .i64 6, .int .i64 (bits BinOp.and .i64 (4 * to) 65535)]
                rwa [World.size_alloc] at this
              have Z3 := Lib.hid Z3
              have X3 : w3.heap.size + 1 < ((w3.alloc (.cells #[.int .i64 1, .bool true, .bool false, .int .i64 xr, .int .i64 0, .int .i64 0, .int .i64 0, .int .i64 (4 * to / 65536)] 32)).alloc (.cells #[.int .i64 1, .bool false, .bool false, .int .i64 xr, .int .i64 xr, .int .i64 0, .int .i64 6, .int .i64 (bits BinOp.and .i64 (4 * to) 65535)] 32)).heap.size := by simp
              have B4 : Below w1.heap.size w1 ((w3.alloc (.cells #[.int .i64 1, .bool true, .bool false, .int .i64 xr, .int .i64 0, .int .i64 0, .int .i64 0, .int .i64 (4 * to / 65536)] 32)).alloc (.cells #[.int .i64 1, .bool false, .bool false, .int .i64 xr, .int .i64 xr, .int .i64 0, .int .i64 6, .int .i64 (bits BinOp.and .i64 (4 * to) 65535)] 32)) := (B3'.alloc B3'.size _).alloc (Nat.le_trans B3'.size (by simp)) _
              have Q4 : w1.heap.size ≤ w3.heap.size := B3'.size
              have zsz : (Try.prog.info? 32).map (·.size) = some 8 := by kernel_rfl
              have zsz := Lib.hid zsz
              have jb1 := Lib.hid (Ins.E_bd i1)
              have jb2 := Lib.hid (Ins.E_bd i2)
              have L3 := Lib.hid hown3.out.lt
              clear d1 d2 v1 v2 B3' hown3
              go_wp2_with fail
              generalize (w3.alloc (.cells #[.int .i64 1, .bool true, .bool false, .int .i64 xr, .int .i64 0, .int .i64 0, .int .i64 0, .int .i64 (4 * to / 65536)] 32)).alloc (.cells #[.int .i64 1, .bool false, .bool false, .int .i64 xr, .int .i64 xr, .int .i64 0, .int .i64 6, .int .i64 (bits BinOp.and .i64 (4 * to) 65535)] 32) = w4 at *
              refine (E1 _).out.mono ?_
              rintro e w5 ⟨rfl, hb5⟩
              have O5 := own_below O3.out hb5
              obtain ⟨gg, cc, ef, fg0, fg1⟩ := O5.form (by omega)
              injection ef with ef _ ef2
              subst ef ef2
              have fz := O5.frozenAt pn
              have cl := O5.cellAt pn (by omega)
              have O6 := (O5.stored pn (.int .u32 i1.E)).1
              rw [← List.map_set] at O6
              rw [List.getElem?_map, List.getElem?_eq_getElem (by have := hol.out; omega)] at cl
              simp only [Option.map_some] at cl
              have B5 : Below w1.heap.size w1 (w5.setCell ⟨gg, pn, none⟩ (.int .u32 i1.E)) := (B4.trans (hb5.mono B4.size)).setCell (p := ⟨gg, pn, none⟩) fg0 _
              have Z5 : Blk w5 (w3.heap.size + 1) 32 #[.int .i64 1, .bool false, .bool false, .int .i64 xr, .int .i64 xr, .int .i64 0, .int .i64 6, .int .i64 (bits BinOp.and .i64 (4 * to) 65535)] := Z3.out.below hb5 X3
              have ng : gg ≠ w3.heap.size + 1 := by
                have := (L3.out gg rfl).2
                omega
              have Z6 := Lib.hid (Z5.far (p := ⟨gg, pn, none⟩) (fun e => ng e.symm) (.int .u32 i1.E))
              have O6 := Lib.hid O6
              have hb6' := B5.size
              clear O5 Z5 Z3 O3 hb5 B4
              go_wp2_with (refine wpList_load_row rfl 32 (.tmp 23) rfl (w3.heap.size + 1) rfl 32 #[.int .i64 1, .bool false, .bool false, .int .i64 xr, .int .i64 xr, .int .i64 0, .int .i64 6, .int .i64 (bits BinOp.and .i64 (4 * to) 65535)] (0, 0) _ Z6.out Try.underlying32 rfl zsz.out ?_)
              generalize w5.setCell ⟨gg, pn, none⟩ (.int .u32 i1.E) = w6 at *
              refine (E2 _).out.mono ?_
              rintro e w7 ⟨rfl, hb7⟩
              have O7 := own_below O6.out hb7
              have fz7 := O7.frozenAt (pn + 1)
              have cl7 := O7.cellAt (pn + 1) (by omega)
              have O8 := (O7.stored (pn + 1) (.int .u32 i2.E)).1
              rw [← List.map_set] at O8
              rw [List.getElem?_map, List.getElem?_eq_getElem (by have := hol.out; simp; omega)] at cl7
              simp only [Option.map_some] at cl7
              have B8 : Below w1.heap.size w1 (w7.setCell ⟨gg, pn + 1, none⟩ (.int .u32 i2.E)) := (B5.trans (hb7.mono B5.size)).setCell (p := ⟨gg, pn + 1, none⟩) fg0 _
              have O8 := Lib.hid O8
              clear O7 O6 Z6 hb7 B5
              go_wp2_with fail
              refine ⟨⟨k + 1, (out.set pn i1.E).set (pn + 1) i2.E, by go_num, by omega, by simp [hol.out], O8, B8, Lib.hid hres.out.symm⟩, ?_⟩
              simp only [intOf]
              omega
          · have hres := Lib.hid (hcons.out.trans (if_neg hgo))
            have hno : hs_ = false ∨ (hs_ = true ∧ to < 0) ∨ (hs_ = true ∧ 0 ≤ to ∧ 65536 ≤ to) := by
              cases hs_ with
              | false => exact Or.inl rfl
              | true =>
                have : ¬ (0 ≤ to ∧ to < 65536) := fun h => hgo ⟨rfl, by simpa [Fx.okTo] using h⟩
                refine Or.inr ?_
                by_cases h : to < 0
                · exact Or.inl ⟨rfl, h⟩
                · exact Or.inr ⟨rfl, by omega, by omega⟩
            clear hgo hcons hi1 hi2 hi1d hi2d
            rcases hno with rfl | ⟨rfl, h⟩ | ⟨rfl, h, h'⟩
            · go_wp2_with fail
              go_ret2
              exact ⟨fillEnd_none _ hres.out, B3⟩
            · go_wp2_with fail
              go_ret2
              exact ⟨fillEnd_none _ hres.out, B3⟩
            · go_wp2_with fail
              go_ret2
              exact ⟨fillEnd_none _ hres.out, B3⟩
        · go_wp2_with fail
          go_ret2
          obtain rfl : k = l.length := by omega
          have hf := hf.out
          rw [List.drop_length] at hf
          refine ⟨fillEnd_some hf.symm (own_from ?_ B1.size), Bw⟩
          rw [hol.out]
          exact hown.out

end Go.Proofs.Ytlihcdhcljljoaa
