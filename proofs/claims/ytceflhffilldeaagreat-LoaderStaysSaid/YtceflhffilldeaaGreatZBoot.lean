/-
  Joined: ZBoot.
-/
import Derived.Test.YtceflhffilldeaaGreatZLdLoad
import Derived.Laws.MakeOwn
set_option linter.unusedVariables false
set_option linter.unusedSimpArgs false
set_option maxRecDepth 100000
set_option maxHeartbeats 16000000
namespace Go.Proofs.YtceflhffilldeaaGreat
open Go.RowKit Bw
theorem image_first (n:Int) (w:World) (h0:-9223372036854775808≤n) (h1:n≤9223372036854775807):Calls Tryz.prog 66 #[.int .i64 n] w fun e w'=>e=.returned (.int .i64 (Boot.first n))∧w=w':=by
 unfold Boot.first
 by_cases h:0≤n∧n≤16
 ·rw[if_pos h]
  obtain⟨a,b⟩:=h
  go_enter Tryz.func66,Tryz.ntmps66
  go_wp2_with fail
  go_ret
  exact⟨rfl,rfl⟩
 ·rw[if_neg h]
  by_cases h2:n<0
  ·go_enter Tryz.func66,Tryz.ntmps66
   go_wp2_with fail
   go_ret
   exact⟨rfl,rfl⟩
  ·have h3:16<n:=by omega
   go_enter Tryz.func66,Tryz.ntmps66
   go_wp2_with fail
   go_ret
   exact⟨rfl,rfl⟩
theorem insAt_cells (w:World) (t:TypeId) (xs:List Ins) (cs:Array Value) (h:cs=(xs.flatMap fun x=>x.cells.toList).toArray):InsAt (w.alloc (.cells cs t)) w.heap.size xs:=by
 subst h
 refine⟨by simp,fun k x hx j v hv=>?_⟩
 rw[cell_of_row _ _ _ _ _ _ (heap_alloc_new w _)]
 have key:∀ (xs:List Ins) (k:Nat),xs[k]?=some x→(xs.flatMap fun x=>x.cells.toList)[k*8+j]?=some v:=by
  intro xs
  induction xs with
  | nil=>intro k hk;simp at hk
  | cons y ys ih=>
   intro k hk
   have hl:y.cells.toList.length=8:=rfl
   rw[List.flatMap_cons]
   cases k with
   | zero=>
    simp at hk
    subst hk
    rw[Nat.zero_mul,Nat.zero_add,List.getElem?_append_left (by have:=(List.getElem?_eq_some_iff.1 hv).1;omega)]
    exact hv
   | succ k=>
    rw[List.getElem?_append_right (by omega),hl,show (k+1)*8+j-8=k*8+j by omega]
    exact ih k (by simpa using hk)
 simpa using key xs k hx
theorem own_cells {w:World} {base:Nat} {n:Nat} {v:Value} {xs:List Value} (h:w.ownsRow base 37 1 v n xs) (hn:0<n):∃ g cap,v=.slice (some ⟨g,0,none⟩) n cap∧xs.length=n*1∧∀ j u,xs[j]?=some u→w.cell? ((⟨g,0,none⟩:Addr).add j)=some u:=by
 obtain⟨g,cap,hv,_,hlt⟩:=h.form hn
 exact⟨g,cap,hv,h.1,h.cells (g:=g) (by rw[hv];rfl)⟩
theorem words_one (xs:List Ins):∀ u∈(xs.map fun x=>Value.int .u32 x.E),u.oneCell'=true:=by
 intro u hu
 simp only[List.mem_map] at hu
 obtain⟨x,_,rfl⟩:=hu
 rfl
theorem i64_and65535 (n:Int):bits .and .i64 n 65535=n % 65536:=by
 have h127:(BitVec.ofInt 64 65535).toNat=2 ^ 16-1:=by decide
 have key:(BitVec.ofInt 64 n &&& BitVec.ofInt 64 65535).toNat=(n % ((2 ^ 64:Nat):Int)).toNat % 2 ^ 16:=by
  rw[BitVec.toNat_and,BitVec.toNat_ofInt,h127,Nat.and_two_pow_sub_one_eq_mod]
 show IntKind.i64.wrap ((BitVec.ofInt 64 n &&& BitVec.ofInt 64 65535).toNat:Nat)=n % 65536
 rw[key,IntKind.wrap_i64]
 omega
theorem make8 (w:World):(Instr.makeSlice 30 (.int .i64 8) (.int .i64 8)).run Tryz.prog w=.ok (.slice (some ⟨w.heap.size,0,none⟩) 8 8) (w.alloc (.cells #[.int .u32 0,.int .u32 0,.int .u32 0,.int .u32 0,.int .u32 0,.int .u32 0,.int .u32 0,.int .u32 0] 37)):=by
 obtain⟨i0,hi0,hz0,hz1,hz2⟩:=info_parts u32_info
 have h:=run_makeSlice (P:=Tryz.prog) w 30 37 i0 (.int .u32 0) Tryz.underlying30 hi0 hz0 .i64 .i64 8 8 (by decide) (by decide) (by rw[hz1];decide) (by rw[hz2];decide) (by decide)
 rw[hz1] at h
 rw[show madeCells (Value.int .u32 0).cells (Int.toNat 8*1)=#[.int .u32 0,.int .u32 0,.int .u32 0,.int .u32 0,.int .u32 0,.int .u32 0,.int .u32 0,.int .u32 0] by kernel_rfl] at h
 exact h
theorem zeros_own (w:World):(w.alloc (.cells #[.int .u32 0,.int .u32 0,.int .u32 0,.int .u32 0,.int .u32 0,.int .u32 0,.int .u32 0,.int .u32 0] 37)).ownsRow w.heap.size 37 1 (.slice (some ⟨w.heap.size,0,none⟩) 8 8) 8 (Boot.zeros.map (Value.int .u32)):=
 ⟨rfl,Or.inr ⟨w.heap.size,8,_,rfl,Nat.le_refl _,heap_alloc_new w _,Nat.le_refl _,by decide,rfl,rfl⟩⟩
theorem image_boot_ok (size:Int) (es:List Int) (v:Value) (w:World) (hv:Row .i64 w v es) (hok:Boot.ok size es=true) :
  Calls Tryz.prog 49 #[.int .i64 size,v] w fun e w'=>∃ u,e=.returned (.tuple #[u,.int .i64 0])∧w'.ownsRow w.heap.size 37 1 u (es.length+13) ((Boot.words size es).map (Value.int .u32))∧Below w.heap.size w w':=by
 simp only[Boot.ok,Boot.sized,Boot.inside,Bool.and_eq_true,decide_eq_true_eq] at hok
 obtain⟨⟨⟨h1,h2⟩,h3⟩,h4⟩:=hok
 obtain⟨hm,A,c,rfl,hc⟩:=hv
 have hc:=zh hc
 have h4:=zh h4
 have h3':(es.length:Int)≤16:=by omega
 obtain⟨i0,hi0,hz0,hz1,hz2⟩:=info_parts u32_info
 have MK:=make8
 have e1:bits .and .i64 (4*size) 65535=4*size % 65536:=by
  rw[i64_and65535]
 go_enter Tryz.func49,Tryz.ntmps49
 go_wp2_with fail
 have Z0:=zh (zeros_own w)
 have B0:Below w.heap.size w (w.alloc (.cells #[.int .u32 0,.int .u32 0,.int .u32 0,.int .u32 0,.int .u32 0,.int .u32 0,.int .u32 0,.int .u32 0] 37)):=(Below.refl _ _).alloc (Nat.le_refl _) _
 have z0:(w.alloc (.cells #[.int .u32 0,.int .u32 0,.int .u32 0,.int .u32 0,.int .u32 0,.int .u32 0,.int .u32 0,.int .u32 0] 37)).heap.size=w.heap.size+1:=by simp
 rw[← z0]
 generalize w.alloc (.cells #[.int .u32 0,.int .u32 0,.int .u32 0,.int .u32 0,.int .u32 0,.int .u32 0,.int .u32 0,.int .u32 0] 37)=W at *
 have z0:=zh z0
 refine(image_words [Boot.hi (4*size / 65536),Boot.lo (4*size % 65536)] W.heap.size 2 _ (insAt_cells W _ _ _ rfl) (by simp[Boot.hi,Boot.lo,Ins.fits];omega) (by simp)).mono ?_
 rintro e w1 ⟨u1,rfl,ho1,hb1⟩
 obtain⟨g1,c1,rfl,l1,x1⟩:=own_cells ho1 (by simp)
 have Z1:=zh (own_below (Z0.out.alloc _) hb1)
 have B1:Below w.heap.size w w1:=(B0.alloc B0.size _).trans (hb1.mono (by simp;exact Nat.le_succ_of_le B0.size))
 have x1:=zh x1
 clear hb1 B0
 go_wp2_with (at_builtin;refine wpList_append_own _ rfl (.tmp 24) (.tmp 32) 30 rfl w.heap.size 37 i0 _ 1 4 Tryz.underlying30 hi0 hz0 hz1 hz2 rfl (by omega) _ 8 _ rfl Z1.out ⟨g1,0,none⟩ 2 c1 _ rfl l1 x1.out (words_one _) (by simp only[maxLen];omega) (by omega) B1.size ?_;intro v2 w2 ho2 hg2 _)
 have H2:Hid (w2.ownsRow w.heap.size 37 1 v2 (10+0) ((Boot.zeros++(Boot.ins size es 0).map Ins.E).map (Value.int .u32))):=zh ho2
 have B2:Below w.heap.size w w2:=B1.grown hg2 B1.size (fun k hk=>by have:=Z1.out.lt k hk;exact this.1)
 clear ho2 hg2 Z1 x1 l1 ho1 B1 Z0 z0
 go_wp2_with fail
 go_loopw [6,36] (fun o i wr=>∃ k:Nat,i=.int .i64 k∧k≤es.length∧wr.ownsRow w.heap.size 37 1 o (10+k) ((Boot.zeros++(Boot.ins size es k).map Ins.E).map (Value.int .u32))∧Below w.heap.size w wr) (fun _ i _=>es.length-(intOf i).toNat)
 case atStart=>exact⟨0,rfl,by omega,H2.out,B2⟩
 case round=>
  clear H2
  obtain⟨k,rfl,hk,hown,hb⟩:=hrel
  by_cases hlt:(k:Int)<(es.length:Int)
  ·obtain⟨ad,rfl,had,hcell⟩:=hc.out k (by omega)
   have hcell':=(hb.cell (p:=ad.add k) (by rw[block_add];exact had)).trans hcell
   obtain⟨e0,e1'⟩:=h4.out k (by omega)
   have hs:=zh (Boot.ins_succ size es k)
   generalize es.getD k 0=e at *
   obtain⟨g3,c3,rfl,l3,x3⟩:=own_cells hown (by omega)
   have hown:=zh hown
   clear l3 x3 hcell
   go_wp2_with fail
   refine(image_words [Boot.call (e-(10+k)-1)] wr.heap.size 1 _ (insAt_cells wr _ _ _ rfl) (by simp[Boot.call,Ins.fits];omega) (by simp)).mono ?_
   rintro e w3 ⟨u3,rfl,ho3,hb3⟩
   obtain⟨g4,c4,rfl,l4,x4⟩:=own_cells ho3 (by simp)
   have Z3:=zh (own_below (hown.out.alloc _) hb3)
   have B3:Below w.heap.size w w3:=(hb.alloc hb.size _).trans (hb3.mono (by simp;exact Nat.le_succ_of_le hb.size))
   have x4:=zh x4
   clear hb3 ho3 hown hb
   go_wp2_with (at_builtin;refine wpList_append_own _ rfl (.tmp 47) (.tmp 55) 30 rfl w.heap.size 37 i0 _ 1 4 Tryz.underlying30 hi0 hz0 hz1 hz2 rfl (by omega) _ (10+k) _ rfl Z3.out ⟨g4,0,none⟩ 1 c4 _ rfl l4 x4.out (words_one _) (by simp only[maxLen];omega) (by omega) B3.size ?_;intro v5 w5 ho5 hg5 _)
   have H5:=zh ho5
   have B5:Below w.heap.size w w5:=B3.grown hg5 B3.size (fun k hk=>by have:=Z3.out.lt k hk;exact this.1)
   clear ho5 hg5 Z3 x4 l4 B3
   go_wp2_with fail
   refine⟨⟨k+1,by go_num,by omega,?_,B5⟩,by simp[intOf];omega⟩
   have:=H5.out
   rw[hs.out]
   simpa [List.map_append,Function.comp_def,Nat.add_assoc] using this
  ·obtain rfl:k=es.length:=by omega
   obtain⟨g3,c3,rfl,l3,x3⟩:=own_cells hown (by omega)
   have hown:=zh hown
   clear l3 x3 hlt hk
   go_wp2_with fail
   refine(image_words Boot.fin wr.heap.size 3 _ (insAt_cells wr _ _ _ rfl) (by simp[Boot.fin,Ins.fits]) (by simp[Boot.fin])).mono ?_
   rintro e w3 ⟨u3,rfl,ho3,hb3⟩
   obtain⟨g4,c4,rfl,l4,x4⟩:=own_cells ho3 (by simp[Boot.fin])
   have Z3:=zh (own_below (hown.out.alloc _) hb3)
   have B3:Below w.heap.size w w3:=(hb.alloc hb.size _).trans (hb3.mono (by simp;exact Nat.le_succ_of_le hb.size))
   have x4:=zh x4
   clear hb3 ho3 hown hb
   go_wp2_with (at_builtin;refine wpList_append_own _ rfl (.tmp 58) (.tmp 63) 30 rfl w.heap.size 37 i0 _ 1 4 Tryz.underlying30 hi0 hz0 hz1 hz2 rfl (by omega) _ (10+es.length) _ rfl Z3.out ⟨g4,0,none⟩ 3 c4 _ rfl l4 x4.out (words_one _) (by simp only[maxLen];omega) (by omega) B3.size ?_;intro v5 w5 ho5 hg5 _)
   have H5:=zh ho5
   have B5:Below w.heap.size w w5:=B3.grown hg5 B3.size (fun k hk=>by have:=Z3.out.lt k hk;exact this.1)
   clear ho5 hg5 Z3 x4 l4 B3
   go_wp2_with fail
   go_ret2
   refine⟨v5,rfl,?_,B5⟩
   have:=H5.out
   rw[show es.length+13=10+es.length+3 by omega,Boot.words]
   simpa [List.map_append,Function.comp_def,Nat.add_assoc,Boot.fin] using this
end Go.Proofs.YtceflhffilldeaaGreat
