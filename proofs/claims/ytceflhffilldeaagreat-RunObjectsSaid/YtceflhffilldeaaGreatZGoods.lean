/-
  Joined: ZGoods.
-/
import Derived.Test.YtceflhffilldeaaGreatZObjG
import Derived.Deep.CutBlock
import Derived.Deep.RegionHeld3
set_option linter.unusedVariables false
set_option linter.unusedSimpArgs false
set_option maxRecDepth 100000
set_option maxHeartbeats 16000000
namespace Go.Proofs.YtceflhffilldeaaGreat
open Go.RowKit ObjL
theorem lk_reg_bd (a:Int) (h0:0≤a) (h1:a≤4294967295):0≤Fx.reg a∧Fx.reg a<16:=by unfold Fx.reg;split<;>omega
theorem lk_sort_bd (a:Int) (h0:0≤a) (h1:a≤4294967295):0≤Fx.sort a∧Fx.sort a<4:=by unfold Fx.sort;split<;>omega
theorem lk_mod_bd (a:Int) (h0:0≤a) (h1:a≤4294967295):0≤Fx.mod a∧Fx.mod a<64:=by unfold Fx.mod;split<;>omega
def linkVal (o:Ob) (call:Bool) (r s m b:Int):Bool:=(call==(s==0)) && (!call || r==0) && decide (m≤o.uses.length) && decide (b<most o (m==0) s)
theorem obj_linked (o:Ob) (vU vD vC vE:Value) (w:World) (hp:ObParts w o vU vD vC vE) (p:Nat) (hlt:p+1<o.code.length) (call:Bool) (hw:∀ x∈o.code,0≤x∧x≤4294967295) (hd:0≤o.data∧o.data≤4096) (hst:o.strings.length≤32768) (hc8:o.code.length≤8192) :
  Calls Tryz.prog 183 #[.agg (obCells o vU vD vC vE),.int .i64 (p:Int),.bool call] w fun e w'=>e=.returned (.bool (okAt o call p))∧Below w.heap.size w w':=by
 obtain⟨hU,hD,hC,hE⟩:=hp
 obtain⟨hU1,AU,cU,rfl,-⟩:=hU
 obtain⟨hD1,AD,cD,rfl,-⟩:=hD
 obtain⟨hE1,AE,cE,rfl,-⟩:=hE
 obtain⟨hC1,AC,cC,rfl,hc⟩:=hC
 obtain⟨ad,rfl,had,q0⟩:=hc p (by omega)
 obtain⟨ad',e1,had',q1⟩:=hc (p+1) (by omega)
 obtain rfl:=Option.some.inj e1
 have hokAt:okAt o call p=linkVal o call (Fx.reg (o.code.getD p 0)) (Fx.sort (o.code.getD p 0)) (Fx.mod (o.code.getD p 0)) (o.code.getD (p+1) 0):=rfl
 rw[hokAt]
 have ha:=hw (o.code.getD p 0) (by rw[List.getD_eq_getElem?_getD,List.getElem?_eq_getElem (by omega)];exact List.getElem_mem _)
 have hb:=hw (o.code.getD (p+1) 0) (by rw[List.getD_eq_getElem?_getD,List.getElem?_eq_getElem (by omega)];exact List.getElem_mem _)
 have PT:=fun W=>zh (fix_parts (o.code.getD p 0) W ha.1 (by omega))
 have hr:=lk_reg_bd _ ha.1 ha.2
 have hs:=lk_sort_bd _ ha.1 ha.2
 have hm:=lk_mod_bd _ ha.1 ha.2
 clear hokAt hc hw e1
 generalize Fx.reg (o.code.getD p 0)=r at *
 generalize Fx.sort (o.code.getD p 0)=s at *
 generalize Fx.mod (o.code.getD p 0)=m at *
 generalize Fx.back (o.code.getD p 0)=bk at *
 generalize Fx.isLink (o.code.getD p 0)=il at *
 generalize o.code.getD p 0=a at *
 generalize o.code.getD (p+1) 0=b at *
 have eS:=txt_size o.strings
 have hpc:(p:Int)<o.code.length:=by omega
 have hpc1:(p:Int)+1<o.code.length:=by omega
 have hnew:=fun (cs:Array Value)=>(Below.refl w.heap.size w).alloc (Nat.le_refl _) (.cells cs 48)
 have x0:(w.alloc (.cells (obCells o (.slice AU o.uses.length cU) (.slice AD o.descs.length cD) (.slice (some ad) o.code.length cC) (.slice AE o.entries.length cE)) 48)).cell? (ad.add p)=some (.int .u32 a):=((hnew _).cell (p:=ad.add p) (by rw[block_add];exact had)).trans q0
 have x1:(w.alloc (.cells (obCells o (.slice AU o.uses.length cU) (.slice AD o.descs.length cD) (.slice (some ad) o.code.length cC) (.slice AE o.entries.length cE)) 48)).cell? (ad.add (p+1))=some (.int .u32 b):=((hnew _).cell (p:=ad.add (p+1)) (by rw[block_add];exact had)).trans q1
 have hB1:=zh (hnew (obCells o (.slice AU o.uses.length cU) (.slice AD o.descs.length cD) (.slice (some ad) o.code.length cC) (.slice AE o.entries.length cE)))
 have L1:=Blk.new w 48 (obCells o (.slice AU o.uses.length cU) (.slice AD o.descs.length cD) (.slice (some ad) o.code.length cC) (.slice AE o.entries.length cE))
 have c2:(w.alloc (.cells (obCells o (.slice AU o.uses.length cU) (.slice AD o.descs.length cD) (.slice (some ad) o.code.length cC) (.slice AE o.entries.length cE)) 48)).cell? ⟨w.heap.size,2,none⟩=some (.slice AU o.uses.length cU):=L1.cell 2
 have c3:(w.alloc (.cells (obCells o (.slice AU o.uses.length cU) (.slice AD o.descs.length cD) (.slice (some ad) o.code.length cC) (.slice AE o.entries.length cE)) 48)).cell? ⟨w.heap.size,3,none⟩=some (.slice AD o.descs.length cD):=L1.cell 3
 have c4:(w.alloc (.cells (obCells o (.slice AU o.uses.length cU) (.slice AD o.descs.length cD) (.slice (some ad) o.code.length cC) (.slice AE o.entries.length cE)) 48)).cell? ⟨w.heap.size,4,none⟩=some (.int .i64 o.data):=L1.cell 4
 have c5:(w.alloc (.cells (obCells o (.slice AU o.uses.length cU) (.slice AD o.descs.length cD) (.slice (some ad) o.code.length cC) (.slice AE o.entries.length cE)) 48)).cell? ⟨w.heap.size,5,none⟩=some (.string (txt o.strings)):=L1.cell 5
 have c6:(w.alloc (.cells (obCells o (.slice AU o.uses.length cU) (.slice AD o.descs.length cD) (.slice (some ad) o.code.length cC) (.slice AE o.entries.length cE)) 48)).cell? ⟨w.heap.size,6,none⟩=some (.slice (some ad) o.code.length cC):=L1.cell 6
 have c7:(w.alloc (.cells (obCells o (.slice AU o.uses.length cU) (.slice AD o.descs.length cD) (.slice (some ad) o.code.length cC) (.slice AE o.entries.length cE)) 48)).cell? ⟨w.heap.size,7,none⟩=some (.slice AE o.entries.length cE):=L1.cell 7
 clear q0 q1 hnew L1
 have hcase:s=0∨s=1∨s=2∨s=3:=by omega
 go_enter Tryz.func183,Tryz.ntmps183
 go_wp2_with fail
 generalize hWa:w.alloc (.cells (obCells o (.slice AU o.uses.length cU) (.slice AD o.descs.length cD) (.slice (some ad) o.code.length cC) (.slice AE o.entries.length cE)) 48)=Wa at *
 refine(PT _).out.mono ?_
 rintro e w2 ⟨rfl,hk⟩
 have gs:w.heap.size<w2.heap.size:=Nat.lt_of_lt_of_le (by rw[← hWa];simp) hk.size
 have x1:=(hk.cell (p:=ad.add (p+1)) trivial).trans x1
 have c2':=(hk.cell (p:=⟨w.heap.size,2,none⟩) trivial).trans c2
 have c3':=(hk.cell (p:=⟨w.heap.size,3,none⟩) trivial).trans c3
 have c4':=(hk.cell (p:=⟨w.heap.size,4,none⟩) trivial).trans c4
 have c5':=(hk.cell (p:=⟨w.heap.size,5,none⟩) trivial).trans c5
 have c6':=(hk.cell (p:=⟨w.heap.size,6,none⟩) trivial).trans c6
 have c7':=(hk.cell (p:=⟨w.heap.size,7,none⟩) trivial).trans c7
 have hB2:Hid (Below w.heap.size w w2):=zh (hB1.out.trans hk.all_below)
 have had2:ad.block<w2.heap.size:=by have:=gs;omega
 clear hk PT x0 c2 c3 c4 c5 c6 c7 hWa hB1
 obtain⟨q,hq⟩:∃ q,p+1=q:=⟨_,rfl⟩
 have hwp:Hid (IntKind.i64.wrap ((p:Int)+1)=(q:Int)):=zh (by rw[IntKind.wrap_i64];omega)
 have hqc:(q:Int)<o.code.length:=by omega
 rw[hq] at x1
 clear hq hpc1 hlt
 cases call
 ·rcases hcase with rfl | rfl | rfl | rfl
  ·go_wp2_with fail
   go_ret
   exact⟨og_ret (by simp[linkVal]),hB2.out⟩
  ·by_cases hmu:(o.uses.length:Int)<m
   ·go_wp2_with fail
    go_ret
    exact⟨og_ret (by simp[linkVal];omega),hB2.out⟩
   ·have hmu2:m≤(o.uses.length:Int):=by omega
    by_cases hm0:0<m
    ·have hm1:(m==0)=false:=by simp;omega
     have Y:=(Blk.new w2 253 #[.int .i64 64,.int .i64 4096,.int .i64 64,.int .i64 64]).cell 1
     simp only[gAr,gC0,gCs] at Y
     have hb3:=zh ((Below.refl w2.heap.size w2).alloc (Nat.le_refl _) (.cells #[.int .i64 64,.int .i64 4096,.int .i64 64,.int .i64 64] 253))
     have z1:=(hb3.out.cell (p:=ad.add q) (by rw[block_add];exact had2)).trans x1
     have z6:=(hb3.out.cell (p:=⟨w.heap.size,6,none⟩) gs).trans c6'
     go_wp2_with fail
     generalize w2.heap.size=g3 at *
     generalize (w2.alloc (.cells #[.int .i64 64,.int .i64 4096,.int .i64 64,.int .i64 64] 253))=W3 at *
     have hp1:=hwp.out
     refine region_drew 10 (by kernel_rfl) (by kernel_rfl) ?_
     simp only[List.take_succ_cons,List.take_zero,List.drop_succ_cons,List.drop_zero]
     repeat still_step
     refine wpStill_nil ?_
     go_wp2_with fail
     go_ret
     exact⟨og_ret (by simp[linkVal,most, *]),(hB2.out.trans (hb3.out.mono (Nat.le_of_lt gs))).drew⟩
    ·obtain rfl:m=0:=by omega
     have Y:=(Blk.new w2 253 #[.int .i64 (o.entries.length:Int),.int .i64 (o.data+(o.strings.length:Int) / 4),.int .i64 (o.entries.length:Int),.int .i64 (o.descs.length:Int)]).cell 1
     simp only[gAr,gC0,gCs] at Y
     have hb3:=zh ((Below.refl w2.heap.size w2).alloc (Nat.le_refl _) (.cells #[.int .i64 (o.entries.length:Int),.int .i64 (o.data+(o.strings.length:Int) / 4),.int .i64 (o.entries.length:Int),.int .i64 (o.descs.length:Int)] 253))
     have z1:=(hb3.out.cell (p:=ad.add q) (by rw[block_add];exact had2)).trans x1
     have z6:=(hb3.out.cell (p:=⟨w.heap.size,6,none⟩) gs).trans c6'
     go_wp2_with fail
     generalize w2.heap.size=g3 at *
     generalize (w2.alloc (.cells #[.int .i64 (o.entries.length:Int),.int .i64 (o.data+(o.strings.length:Int) / 4),.int .i64 (o.entries.length:Int),.int .i64 (o.descs.length:Int)] 253))=W3 at *
     have hp1:=hwp.out
     refine region_drew 10 (by kernel_rfl) (by kernel_rfl) ?_
     simp only[List.take_succ_cons,List.take_zero,List.drop_succ_cons,List.drop_zero]
     repeat still_step
     refine wpStill_nil ?_
     go_wp2_with fail
     go_ret
     exact⟨og_ret (by simp[linkVal,most, *]),(hB2.out.trans (hb3.out.mono (Nat.le_of_lt gs))).drew⟩
  ·by_cases hmu:(o.uses.length:Int)<m
   ·go_wp2_with fail
    go_ret
    exact⟨og_ret (by simp[linkVal];omega),hB2.out⟩
   ·have hmu2:m≤(o.uses.length:Int):=by omega
    by_cases hm0:0<m
    ·have hm1:(m==0)=false:=by simp;omega
     have Y:=(Blk.new w2 253 #[.int .i64 64,.int .i64 4096,.int .i64 64,.int .i64 64]).cell 2
     simp only[gAr,gC0,gCs] at Y
     have hb3:=zh ((Below.refl w2.heap.size w2).alloc (Nat.le_refl _) (.cells #[.int .i64 64,.int .i64 4096,.int .i64 64,.int .i64 64] 253))
     have z1:=(hb3.out.cell (p:=ad.add q) (by rw[block_add];exact had2)).trans x1
     have z6:=(hb3.out.cell (p:=⟨w.heap.size,6,none⟩) gs).trans c6'
     go_wp2_with fail
     generalize w2.heap.size=g3 at *
     generalize (w2.alloc (.cells #[.int .i64 64,.int .i64 4096,.int .i64 64,.int .i64 64] 253))=W3 at *
     have hp1:=hwp.out
     refine region_drew 10 (by kernel_rfl) (by kernel_rfl) ?_
     simp only[List.take_succ_cons,List.take_zero,List.drop_succ_cons,List.drop_zero]
     repeat still_step
     refine wpStill_nil ?_
     go_wp2_with fail
     go_ret
     exact⟨og_ret (by simp[linkVal,most, *]),(hB2.out.trans (hb3.out.mono (Nat.le_of_lt gs))).drew⟩
    ·obtain rfl:m=0:=by omega
     have Y:=(Blk.new w2 253 #[.int .i64 (o.entries.length:Int),.int .i64 (o.data+(o.strings.length:Int) / 4),.int .i64 (o.entries.length:Int),.int .i64 (o.descs.length:Int)]).cell 2
     simp only[gAr,gC0,gCs] at Y
     have hb3:=zh ((Below.refl w2.heap.size w2).alloc (Nat.le_refl _) (.cells #[.int .i64 (o.entries.length:Int),.int .i64 (o.data+(o.strings.length:Int) / 4),.int .i64 (o.entries.length:Int),.int .i64 (o.descs.length:Int)] 253))
     have z1:=(hb3.out.cell (p:=ad.add q) (by rw[block_add];exact had2)).trans x1
     have z6:=(hb3.out.cell (p:=⟨w.heap.size,6,none⟩) gs).trans c6'
     go_wp2_with fail
     generalize w2.heap.size=g3 at *
     generalize (w2.alloc (.cells #[.int .i64 (o.entries.length:Int),.int .i64 (o.data+(o.strings.length:Int) / 4),.int .i64 (o.entries.length:Int),.int .i64 (o.descs.length:Int)] 253))=W3 at *
     have hp1:=hwp.out
     refine region_drew 10 (by kernel_rfl) (by kernel_rfl) ?_
     simp only[List.take_succ_cons,List.take_zero,List.drop_succ_cons,List.drop_zero]
     repeat still_step
     refine wpStill_nil ?_
     go_wp2_with fail
     go_ret
     exact⟨og_ret (by simp[linkVal,most, *]),(hB2.out.trans (hb3.out.mono (Nat.le_of_lt gs))).drew⟩
  ·by_cases hmu:(o.uses.length:Int)<m
   ·go_wp2_with fail
    go_ret
    exact⟨og_ret (by simp[linkVal];omega),hB2.out⟩
   ·have hmu2:m≤(o.uses.length:Int):=by omega
    by_cases hm0:0<m
    ·have hm1:(m==0)=false:=by simp;omega
     have Y:=(Blk.new w2 253 #[.int .i64 64,.int .i64 4096,.int .i64 64,.int .i64 64]).cell 3
     simp only[gAr,gC0,gCs] at Y
     have hb3:=zh ((Below.refl w2.heap.size w2).alloc (Nat.le_refl _) (.cells #[.int .i64 64,.int .i64 4096,.int .i64 64,.int .i64 64] 253))
     have z1:=(hb3.out.cell (p:=ad.add q) (by rw[block_add];exact had2)).trans x1
     have z6:=(hb3.out.cell (p:=⟨w.heap.size,6,none⟩) gs).trans c6'
     go_wp2_with fail
     generalize w2.heap.size=g3 at *
     generalize (w2.alloc (.cells #[.int .i64 64,.int .i64 4096,.int .i64 64,.int .i64 64] 253))=W3 at *
     have hp1:=hwp.out
     refine region_drew 10 (by kernel_rfl) (by kernel_rfl) ?_
     simp only[List.take_succ_cons,List.take_zero,List.drop_succ_cons,List.drop_zero]
     repeat still_step
     refine wpStill_nil ?_
     go_wp2_with fail
     go_ret
     exact⟨og_ret (by simp[linkVal,most, *]),(hB2.out.trans (hb3.out.mono (Nat.le_of_lt gs))).drew⟩
    ·obtain rfl:m=0:=by omega
     have Y:=(Blk.new w2 253 #[.int .i64 (o.entries.length:Int),.int .i64 (o.data+(o.strings.length:Int) / 4),.int .i64 (o.entries.length:Int),.int .i64 (o.descs.length:Int)]).cell 3
     simp only[gAr,gC0,gCs] at Y
     have hb3:=zh ((Below.refl w2.heap.size w2).alloc (Nat.le_refl _) (.cells #[.int .i64 (o.entries.length:Int),.int .i64 (o.data+(o.strings.length:Int) / 4),.int .i64 (o.entries.length:Int),.int .i64 (o.descs.length:Int)] 253))
     have z1:=(hb3.out.cell (p:=ad.add q) (by rw[block_add];exact had2)).trans x1
     have z6:=(hb3.out.cell (p:=⟨w.heap.size,6,none⟩) gs).trans c6'
     go_wp2_with fail
     generalize w2.heap.size=g3 at *
     generalize (w2.alloc (.cells #[.int .i64 (o.entries.length:Int),.int .i64 (o.data+(o.strings.length:Int) / 4),.int .i64 (o.entries.length:Int),.int .i64 (o.descs.length:Int)] 253))=W3 at *
     have hp1:=hwp.out
     refine region_drew 10 (by kernel_rfl) (by kernel_rfl) ?_
     simp only[List.take_succ_cons,List.take_zero,List.drop_succ_cons,List.drop_zero]
     repeat still_step
     refine wpStill_nil ?_
     go_wp2_with fail
     go_ret
     exact⟨og_ret (by simp[linkVal,most, *]),(hB2.out.trans (hb3.out.mono (Nat.le_of_lt gs))).drew⟩
 ·rcases hcase with rfl | rfl | rfl | rfl
  ·by_cases hr0:r=0
   ·obtain rfl:r=0:=hr0
    by_cases hmu:(o.uses.length:Int)<m
    ·go_wp2_with fail
     go_ret
     exact⟨og_ret (by simp[linkVal];omega),hB2.out⟩
    ·have hmu2:m≤(o.uses.length:Int):=by omega
     by_cases hm0:0<m
     ·have hm1:(m==0)=false:=by simp;omega
      have Y:=(Blk.new w2 253 #[.int .i64 64,.int .i64 4096,.int .i64 64,.int .i64 64]).cell 0
      simp only[gAr,gC0,gCs] at Y
      have hb3:=zh ((Below.refl w2.heap.size w2).alloc (Nat.le_refl _) (.cells #[.int .i64 64,.int .i64 4096,.int .i64 64,.int .i64 64] 253))
      have z1:=(hb3.out.cell (p:=ad.add q) (by rw[block_add];exact had2)).trans x1
      have z6:=(hb3.out.cell (p:=⟨w.heap.size,6,none⟩) gs).trans c6'
      go_wp2_with fail
      generalize w2.heap.size=g3 at *
      generalize (w2.alloc (.cells #[.int .i64 64,.int .i64 4096,.int .i64 64,.int .i64 64] 253))=W3 at *
      have hp1:=hwp.out
      refine region_drew 10 (by kernel_rfl) (by kernel_rfl) ?_
      simp only[List.take_succ_cons,List.take_zero,List.drop_succ_cons,List.drop_zero]
      repeat still_step
      refine wpStill_nil ?_
      go_wp2_with fail
      go_ret
      exact⟨og_ret (by simp[linkVal,most, *]),(hB2.out.trans (hb3.out.mono (Nat.le_of_lt gs))).drew⟩
     ·obtain rfl:m=0:=by omega
      have Y:=(Blk.new w2 253 #[.int .i64 (o.entries.length:Int),.int .i64 (o.data+(o.strings.length:Int) / 4),.int .i64 (o.entries.length:Int),.int .i64 (o.descs.length:Int)]).cell 0
      simp only[gAr,gC0,gCs] at Y
      have hb3:=zh ((Below.refl w2.heap.size w2).alloc (Nat.le_refl _) (.cells #[.int .i64 (o.entries.length:Int),.int .i64 (o.data+(o.strings.length:Int) / 4),.int .i64 (o.entries.length:Int),.int .i64 (o.descs.length:Int)] 253))
      have z1:=(hb3.out.cell (p:=ad.add q) (by rw[block_add];exact had2)).trans x1
      have z6:=(hb3.out.cell (p:=⟨w.heap.size,6,none⟩) gs).trans c6'
      go_wp2_with fail
      generalize w2.heap.size=g3 at *
      generalize (w2.alloc (.cells #[.int .i64 (o.entries.length:Int),.int .i64 (o.data+(o.strings.length:Int) / 4),.int .i64 (o.entries.length:Int),.int .i64 (o.descs.length:Int)] 253))=W3 at *
      have hp1:=hwp.out
      refine region_drew 10 (by kernel_rfl) (by kernel_rfl) ?_
      simp only[List.take_succ_cons,List.take_zero,List.drop_succ_cons,List.drop_zero]
      repeat still_step
      refine wpStill_nil ?_
      go_wp2_with fail
      go_ret
      exact⟨og_ret (by simp[linkVal,most, *]),(hB2.out.trans (hb3.out.mono (Nat.le_of_lt gs))).drew⟩
   ·have hr1:(r==0)=false:=by simp[hr0]
    have hr2:(r != 0)=true:=by simp[hr0]
    go_wp2_with fail
    go_ret
    exact⟨og_ret (by simp[linkVal,hr0]),hB2.out⟩
  ·go_wp2_with fail
   go_ret
   exact⟨og_ret (by simp[linkVal]),hB2.out⟩
  ·go_wp2_with fail
   go_ret
   exact⟨og_ret (by simp[linkVal]),hB2.out⟩
  ·go_wp2_with fail
   go_ret
   exact⟨og_ret (by simp[linkVal]),hB2.out⟩
end Go.Proofs.YtceflhffilldeaaGreat
namespace Go.Proofs.YtceflhffilldeaaGreat
open Go.RowKit ObjL
namespace ObjL
def headAt (o:Ob) (k:Nat):Int:=if k=0 then o.calls else o.places
def linksAt (o:Ob) (k:Nat) (T:List Bool):Option (List Bool):=
 match Fx.chain o.code (headAt o k) with
 | none=>none
 | some l=>mark (okAt o (k==0)) l T
def linksFrom (o:Ob) (k:Nat) (T:List Bool):Option (List Bool):=
 if k=0 then (match linksAt o 0 T with
  | none=>none
  | some T1=>linksAt o 1 T1)
 else if k=1 then linksAt o 1 T else some T
theorem linksFrom_start (o:Ob):linksFrom o 0 (List.replicate o.code.length false)=linksOf o:=by
 unfold linksFrom linksAt linksOf headAt
 cases h1:Fx.chain o.code o.calls with
 | none=>simp[h1]
 | some l1=>
  simp[h1]
  cases mark (okAt o true) l1 (List.replicate o.code.length false) with
  | none=>rfl
  | some t=>
   simp only[]
   cases Fx.chain o.code o.places<;>rfl
theorem linksFrom_two (o:Ob) (T:List Bool):linksFrom o 2 T=some T:=rfl
theorem linksFrom_no {o:Ob} {k:Nat} {T:List Bool} (hk:k<2) (h:linksAt o k T=none):linksFrom o k T=none:=by
 have:k=0∨k=1:=by omega
 rcases this with rfl | rfl
 ·simp[linksFrom,h]
 ·simp[linksFrom,h]
theorem linksFrom_next {o:Ob} {k:Nat} {T T1:List Bool} (hk:k<2) (h:linksAt o k T=some T1):linksFrom o k T=linksFrom o (k+1) T1:=by
 have:k=0∨k=1:=by omega
 rcases this with rfl | rfl
 ·simp[linksFrom,h]
 ·simp[linksFrom,h]
theorem linksAt_none {o:Ob} {k:Nat} (T:List Bool) (h:Fx.chain o.code (headAt o k)=none):linksAt o k T=none:=by
 unfold linksAt;rw[h]
theorem linksAt_some {o:Ob} {k:Nat} {l:List Int} (T:List Bool) (h:Fx.chain o.code (headAt o k)=some l):linksAt o k T=mark (okAt o (k==0)) l T:=by
 unfold linksAt;rw[h]
theorem mark_end (ok:Nat→Bool) (l:List Int) (T:List Bool):mark ok (l.drop l.length) T=some T:=by
 rw[List.drop_length];rfl
theorem drop_getD {l:List Int} {k:Nat} (h:k<l.length):l.drop k=l.getD k 0::l.drop (k+1):=by
 rw[List.drop_eq_getElem_cons h]
 simp[List.getD,h]
theorem mark_no {ok:Nat→Bool} {l:List Int} {k pn:Nat} {T:List Bool} (hk:k<l.length) (hp:l.getD k 0=(pn:Int)) (h:T.getD pn false=true∨T.getD (pn+1) false=true∨ok pn=false):mark ok (l.drop k) T=none:=by
 rw[drop_getD hk,mark,hp,Int.toNat_natCast,if_pos h]
theorem mark_on {ok:Nat→Bool} {l:List Int} {k pn:Nat} {T:List Bool} (hk:k<l.length) (hp:l.getD k 0=(pn:Int)) (h1:T.getD pn false=false) (h2:T.getD (pn+1) false=false) (h3:ok pn=true):mark ok (l.drop k) T=mark ok (l.drop (k+1)) ((T.set pn true).set (pn+1) true):=by
 rw[drop_getD hk,mark,hp,Int.toNat_natCast,if_neg (by rw[h1,h2,h3];simp)]
theorem codedB_no {o:Ob} (h:linksOf o=none):codedB o=false:=by
 unfold codedB;rw[h]
theorem codedB_bad {o:Ob} {T:List Bool} {i:Nat} (h:linksOf o=some T) (hi:i<o.code.length) (h1:T.getD i false=false) (h2:Ins.isIns (o.code.getD i 0)=false):codedB o=false:=by
 unfold codedB;rw[h]
 simp only[List.all_eq_false]
 exact⟨i,List.mem_range.2 hi,by rw[h1,h2];simp⟩
theorem codedB_yes {o:Ob} {T:List Bool} (h:linksOf o=some T) (hi:∀ i,i<o.code.length→T.getD i false=true∨Ins.isIns (o.code.getD i 0)=true):codedB o=true:=by
 unfold codedB;rw[h]
 simp only[List.all_eq_true,List.mem_range,Bool.or_eq_true]
 exact hi
end ObjL
end Go.Proofs.YtceflhffilldeaaGreat
namespace Go.Proofs.YtceflhffilldeaaGreat
open Go.RowKit ObjL
theorem bool_info_:(Tryz.prog.info? 4).map (fun i=>(i.zero,i.size,i.bytes))=some (some (.bool false),1,1):=by kernel_rfl
theorem bools_at {M:List Bool} {i:Nat} (h:i<M.length):(M.map Value.bool)[i]?=some (.bool (M.getD i false)):=by
 simp[List.getD,h]
theorem obj_coded (o:Ob) (vU vD vC vE:Value) (w:World) (hp:ObParts w o vU vD vC vE) (hw:∀ x∈o.code,0≤x∧x≤4294967295) (hd:0≤o.data∧o.data≤4096) (hst:o.strings.length≤32768) (hc8:o.code.length≤8192) (hca:I64 o.calls) (hpl:I64 o.places) :
  Calls Tryz.prog 174 #[.agg (obCells o vU vD vC vE)] w fun e w'=>e=.returned (.bool (codedB o))∧Below w.heap.size w w':=by
 have hp':=zh hp
 obtain⟨hU,hD,hC,hE⟩:=hp
 obtain⟨-,AU,cU,rfl,-⟩:=hU
 obtain⟨-,AD,cD,rfl,-⟩:=hD
 obtain⟨-,AE,cE,rfl,-⟩:=hE
 obtain⟨hC1,AC,cC,rfl,-⟩:=hC
 obtain⟨i0,hi0,hz0,hz1,hz2⟩:=info_parts bool_info_
 go_enter Tryz.func174,Tryz.ntmps174
 go_upto_region 1 with fail
 have L1:=zh (Blk.new w 48 (obCells o (.slice AU o.uses.length cU) (.slice AD o.descs.length cD) (.slice AC o.code.length cC) (.slice AE o.entries.length cE)))
 have B1:=zh ((Below.refl w.heap.size w).alloc (Nat.le_refl _) (.cells (obCells o (.slice AU o.uses.length cU) (.slice AD o.descs.length cD) (.slice AC o.code.length cC) (.slice AE o.entries.length cE)) 48))
 have z1:w.heap.size<(w.alloc (.cells (obCells o (.slice AU o.uses.length cU) (.slice AD o.descs.length cD) (.slice AC o.code.length cC) (.slice AE o.entries.length cE)) 48)).heap.size:=by simp
 generalize w.alloc (.cells (obCells o (.slice AU o.uses.length cU) (.slice AD o.descs.length cD) (.slice AC o.code.length cC) (.slice AE o.entries.length cE)) 48)=W1 at *
 have HP1:=zh (hp'.out.below B1.out)
 have L1k:∀ W,Below W1.heap.size W1 W→Blk W w.heap.size 48 (obCells o (.slice AU o.uses.length cU) (.slice AD o.descs.length cD) (.slice AC o.code.length cC) (.slice AE o.entries.length cE)):=fun W h=>L1.out.below h z1
 have L1k:=zh L1k
 have c6:W1.cell? ⟨w.heap.size,6,none⟩=some (.slice AC o.code.length cC):=L1.out.cell 6
 go_upto_region 2 with (first | (at_make;refine wpList_make_full _ rfl (.tmp 16) (.tmp 16) 250 rfl W1.heap.size 4 i0 _ 1 Tryz.underlying250 hi0 hz0 hz1 .i64 .i64 _ _ o.code.length rfl rfl rfl rfl (by rw[hz2];omega) (by simp only[maxLen];omega) (Nat.le_refl _) ?_;intro W2 hown2 hg2))
 have hown2:Hid (W2.ownsRow W1.heap.size 4 1 (.slice (some ⟨W1.heap.size,0,none⟩) o.code.length o.code.length) o.code.length ((List.replicate o.code.length false).map Value.bool)):=zh (by
  have e:(Value.bool false).cells=#[Value.bool false]:=rfl
  rw[e,toList_madeCells_one,Nat.mul_one] at hown2
  rw[List.map_replicate]
  exact hown2)
 have B2:=zh ((Below.refl W1.heap.size W1).grown hg2 (Nat.le_refl _) (fun k hk=>by cases hk))
 clear hg2 c6
 have c8:W2.cell? ⟨w.heap.size,8,none⟩=some (.int .i64 o.calls):=(L1k.out _ B2.out).cell 8
 have c9:W2.cell? ⟨w.heap.size,9,none⟩=some (.int .i64 o.places):=(L1k.out _ B2.out).cell 9
 go_wp2_with fail
 have hgT:=zh (show w.heap.size<W1.heap.size from z1)
 have hS2:W1.heap.size<W2.heap.size:=(hown2.out.lt _ rfl).2
 have P3:=zh (Blk.new W2 3 #[.int .i64 o.calls,.int .i64 o.places])
 have B3:=zh (B2.out.alloc (Nat.le_of_lt hS2) (.cells #[.int .i64 o.calls,.int .i64 o.places] 3))
 have hS3:W2.heap.size<(W2.alloc (.cells #[.int .i64 o.calls,.int .i64 o.places] 3)).heap.size:=by simp
 have hown3:=zh (fc_own_below hown2.out ((Below.refl W2.heap.size W2).alloc (Nat.le_refl _) (.cells #[.int .i64 o.calls,.int .i64 o.places] 3)))
 generalize W2.alloc (.cells #[.int .i64 o.calls,.int .i64 o.places] 3)=W3 at *
 have hB0:Hid (W1.heap.size=W1.heap.size):=zh rfl
 clear hown2 B2 c8 c9 hB0
 have hz:=zh (And.intro hS2 hS3)
 have hstart:=zh (linksFrom_start o)
 clear hS2 hS3 z1
 go_loopw [24] (fun i wr=>∃ (k:Nat) (T:List Bool),i=.int .i64 k∧k≤2∧T.length=o.code.length∧Hid (wr.ownsRow W1.heap.size 4 1 (.slice (some ⟨W1.heap.size,0,none⟩) o.code.length o.code.length) o.code.length (T.map Value.bool))∧Hid (Kept (fun q=>q<W3.heap.size∧q≠W1.heap.size) W3 wr)∧Hid (linksFrom o k T=linksOf o)) (fun i _=>2-(intOf i).toNat)
 case atStart=>exact⟨0,_,rfl,by omega,by simp,hown3,zh (Kept.refl _ _),hstart⟩
 case round=>
  clear hown3 hstart
  obtain⟨k,T,rfl,hk,hT,hown,hK,hl⟩:=hrel
  have hbw:Hid (Below W1.heap.size W1 wr):=zh (B3.out.trans (hK.out.to_below fun q hq=>⟨by have:=hz.out;omega,by omega⟩))
  by_cases hk2:(k:Int)<2
  ·have hkn:k<2:=by omega
   have hK1:=hK.out
   have cP:wr.cell? ((⟨W2.heap.size,0,none⟩:Addr).add k)=some (.int .i64 (headAt o k)):=by
    rw[fc_add0]
    refine(hK1.cell (p:=⟨W2.heap.size,k,none⟩) ⟨hz.out.2,Nat.ne_of_gt hz.out.1⟩).trans ((P3.out.cell k).trans ?_)
    have:k=0∨k=1:=by omega
    rcases this with rfl | rfl<;>rfl
   rw[fc_add0] at cP
   have c6:wr.cell? ⟨w.heap.size,6,none⟩=some (.slice AC o.code.length cC):=(L1k.out _ hbw.out).cell 6
   have hRc:=zh (HP1.out.code.below hbw.out)
   have hhd:I64 (headAt o k):=by unfold headAt;split<;>assumption
   have FC:=zh (fix_chain o.code (headAt o k) _ wr hRc.out (fun i hi=>by have:=hw (o.code.getD i 0) (by rw[List.getD_eq_getElem?_getD,List.getElem?_eq_getElem hi];exact List.getElem_mem _);omega) (by omega) hhd.1 hhd.2)
   clear hK1
   obtain⟨bb,hbb⟩:∃ b,(k==0)=b:=⟨_,rfl⟩
   have hkb:((k:Int)==0)=bb:=by rw[← hbb];cases k<;>simp<;>omega
   go_wp2_with fail
   refine FC.out.mono ?_
   rintro e W5 ⟨⟨v5,rfl,hown5⟩,hb5⟩
   have Bw5:Hid (Below w.heap.size w W5):=zh ((B1.out.trans (hbw.out.mono (Nat.le_of_lt hgT.out))).trans (hb5.mono (Nat.le_trans (B1.out.trans (hbw.out.mono (Nat.le_of_lt hgT.out))).size (Nat.le_refl _))))
   cases hch:Fx.chain o.code (headAt o k) with
   | none=>
    obtain⟨e1,e2⟩:=cerr_none hch
    have hres:=zh (codedB_no (hl.out.symm.trans (linksFrom_no hkn (linksAt_none T hch))))
    rw[e1]
    rw[e2] at hown5
    obtain⟨-,A5,c5,rfl,-⟩:=row_of_own hown5
    clear FC cP c6 e1 e2 hch hown5 hown hkb
    go_wp2_with fail
    go_ret
    exact⟨og_ret hres.out.symm,Bw5.out⟩
   | some l=>
    obtain⟨e1,e2⟩:=cerr_some hch
    have hla:=zh (linksAt_some T hch)
    rw[hbb] at hla
    have hgood:=zh (Fx.chain_good hch)
    rw[e1]
    rw[e2] at hown5
    have hlt5:=zh hown5.lt
    obtain⟨hll,A5,cap5,rfl,hl5⟩:=row_of_own hown5
    have hl5:=zh hl5
    have hown6:=zh (fc_own_below hown.out hb5)
    have hK6:=zh (hK.out.below hb5 (fun q hq=>Nat.lt_of_lt_of_le hq.1 hK.out.size))
    have hgw:Hid (W1.heap.size<wr.heap.size):=zh (by have:=hK.out.size;have:=hz.out;omega)
    clear FC cP c6 e1 e2 hch hown5 hown hK hbw hRc
    go_wp2_with fail
    generalize wr=wa at *
    go_loopw [40] (fun i wr=>∃ (j:Nat) (M:List Bool),i=.int .i64 j∧j≤l.length∧M.length=o.code.length∧Hid (wr.ownsRow W1.heap.size 4 1 (.slice (some ⟨W1.heap.size,0,none⟩) o.code.length o.code.length) o.code.length (M.map Value.bool))∧Hid (Kept (fun q=>q<W5.heap.size∧q≠W1.heap.size) W5 wr)∧Hid (ObjL.mark (okAt o bb) (l.drop j) M=linksAt o k T)) (fun i _=>l.length-(intOf i).toNat)
    case atStart=>exact⟨0,T,rfl,by omega,hT,hown6,zh (Kept.refl _ _),zh (by rw[hla.out];rfl)⟩
    case round=>
     clear hown6
     obtain⟨j,M,rfl,hj,hM,hownM,hKM,hmk⟩:=hrel
     by_cases hjl:(j:Int)<(l.length:Int)
     ·have hjn:j<l.length:=by omega
      obtain⟨g1,g2,g3,-⟩:=hgood.out j hjn
      obtain⟨al,rfl,hal,hcl⟩:=hl5.out j hjn
      have hlo:=(hlt5.out al.block rfl).1
      have hal2:al.block≠W1.heap.size:=by have:=hgw.out;omega
      have hcl:wr.cell? (al.add j)=some (.int .i64 (l.getD j 0)):=(hKM.out.cell (p:=al.add j) (by rw[block_add];exact⟨hal,hal2⟩)).trans hcl
      obtain⟨pn,hpn⟩:∃ pn:Nat,l.getD j 0=(pn:Int):=⟨(l.getD j 0).toNat,by omega⟩
      have hno:=fun h=>zh (mark_no (ok:=okAt o bb) (T:=M) hjn hpn h)
      have hon:=fun h1 h2 h3=>zh (mark_on (ok:=okAt o bb) (T:=M) hjn hpn h1 h2 h3)
      rw[hpn] at hcl g2
      have hp1:(pn:Int)+1<o.code.length:=by omega
      have ca:=hownM.out.cellAt pn (by omega)
      have cb:=hownM.out.cellAt (pn+1) (by omega)
      rw[bools_at (by omega)] at ca cb
      have fa:=hownM.out.frozenAt pn
      have fb:=hownM.out.frozenAt (pn+1)
      have hbad:=fun h=>zh (codedB_no (hl.out.symm.trans (linksFrom_no hkn (hmk.out.symm.trans h))))
      have BK:Hid (Below W1.heap.size W1 wr):=zh ((B3.out.trans (hK6.out.to_below fun q hq=>⟨by have:=hz.out;omega,by omega⟩)).trans (hKM.out.to_below fun q hq=>⟨by have:=hgw.out;have:=hb5.size;omega,by omega⟩))
      have Bwr:Hid (Below w.heap.size w wr):=zh (B1.out.trans (BK.out.mono (Nat.le_of_lt hgT.out)))
      have LK:=fun W hW=>zh (obj_linked o _ _ _ _ W (HP1.out.below (BK.out.trans hW)) pn (by omega) bb hw hd hst hc8)
      clear hpn hal hal2 hlo g1 g2 g3 hl5 hbb
      cases hA:M.getD pn false
      ·cases hB:M.getD (pn+1) false
       ·rw[hA] at ca
        rw[hB] at cb
        have c0:wr.cell? ⟨w.heap.size,0,none⟩=some (.string (txt o.name)):=(L1k.out _ BK.out).cell 0
        have c1:wr.cell? ⟨w.heap.size,1,none⟩=some (.int .u32 o.key):=(L1k.out _ BK.out).cell 1
        have c2:wr.cell? ⟨w.heap.size,2,none⟩=some (.slice AU o.uses.length cU):=(L1k.out _ BK.out).cell 2
        have c3:wr.cell? ⟨w.heap.size,3,none⟩=some (.slice AD o.descs.length cD):=(L1k.out _ BK.out).cell 3
        have c4:wr.cell? ⟨w.heap.size,4,none⟩=some (.int .i64 o.data):=(L1k.out _ BK.out).cell 4
        have c5:wr.cell? ⟨w.heap.size,5,none⟩=some (.string (txt o.strings)):=(L1k.out _ BK.out).cell 5
        have c6:wr.cell? ⟨w.heap.size,6,none⟩=some (.slice AC o.code.length cC):=(L1k.out _ BK.out).cell 6
        have c7:wr.cell? ⟨w.heap.size,7,none⟩=some (.slice AE o.entries.length cE):=(L1k.out _ BK.out).cell 7
        have c8:wr.cell? ⟨w.heap.size,8,none⟩=some (.int .i64 o.calls):=(L1k.out _ BK.out).cell 8
        have c9:wr.cell? ⟨w.heap.size,9,none⟩=some (.int .i64 o.places):=(L1k.out _ BK.out).cell 9
        go_wp2_with fail
        refine(LK _ (Below.refl _ _)).out.mono ?_
        rintro e W7 ⟨rfl,hb7⟩
        have hB7:Hid (Below w.heap.size w W7):=zh (Bwr.out.trans (hb7.mono Bwr.out.size))
        have own7:=zh (fc_own_below hownM.out hb7)
        have K7:=zh (hKM.out.below hb7 (fun q hq=>Nat.lt_of_lt_of_le hq.1 hKM.out.size))
        clear c0 c1 c2 c3 c4 c5 c6 c7 c8 c9 ca cb fa fb hcl LK hownM hKM hb7
        cases hok:okAt o bb pn
        ·have hres:=zh (hbad (hno (Or.inr (Or.inr hok))).out).out
         clear hA hB hno hon hbad hok
         go_wp2_with fail
         go_ret
         exact⟨og_ret hres.out.symm,hB7.out⟩
        ·have hmk2:=zh ((hon hA hB hok).out.symm.trans hmk.out)
         have fa:=own7.out.frozenAt pn
         have fb:=own7.out.frozenAt (pn+1)
         have ca:=own7.out.cellAt pn (by omega)
         have cb:=own7.out.cellAt (pn+1) (by omega)
         rw[bools_at (by omega)] at ca cb
         have O1:=(own7.out.stored pn (.bool true)).1
         have O2:=(O1.stored (pn+1) (.bool true)).1
         rw[← List.map_set,← List.map_set] at O2
         have O2:=zh O2
         have K8:=zh ((K7.out.setCell (p:=⟨W1.heap.size,pn,none⟩) (fun h=>h.2 rfl) (.bool true)).setCell (p:=⟨W1.heap.size,pn+1,none⟩) (fun h=>h.2 rfl) (.bool true))
         have hMl:((M.set pn true).set (pn+1) true).length=o.code.length:=by simp[hM]
         clear hA hB hno hon hbad hok O1 own7 K7
         go_wp2_with fail
         exact⟨⟨j+1,_,by go_num,by omega,hMl,O2,K8,hmk2⟩,by simp[intOf];omega⟩
       ·have hres:=zh (hbad (hno (Or.inr (Or.inl hB))).out).out
        rw[hA] at ca
        rw[hB] at cb
        clear hA hB hno hon hbad LK
        go_wp2_with fail
        go_ret
        exact⟨og_ret hres.out.symm,Bwr.out⟩
      ·have hres:=zh (hbad (hno (Or.inl hA)).out).out
       rw[hA] at ca
       clear hA hno hon hbad LK
       go_wp2_with fail
       go_ret
       exact⟨og_ret hres.out.symm,Bwr.out⟩
     ·obtain rfl:j=l.length:=by omega
      have hnx:=zh ((linksFrom_next hkn (hmk.out.symm.trans (mark_end _ _ _))).symm.trans hl.out)
      have hKn:Hid (Kept (fun q=>q<W3.heap.size∧q≠W1.heap.size) W3 wr):=zh (hK6.out.trans (hKM.out.mono fun q hq=>⟨Nat.lt_of_lt_of_le hq.1 hK6.out.size,hq.2⟩))
      go_wp2_with fail
      exact⟨⟨k+1,M,by go_num,by omega,hM,hownM,hKn,hnx⟩,by simp[intOf];omega⟩
  ·obtain rfl:k=2:=by omega
   have hlo:=zh (hl.out.symm.trans (linksFrom_two o T))
   have c6:wr.cell? ⟨w.heap.size,6,none⟩=some (.slice AC o.code.length cC):=(L1k.out _ hbw.out).cell 6
   have hRc:=zh (HP1.out.code.below hbw.out)
   have Bwr:Hid (Below w.heap.size w wr):=zh (B1.out.trans (hbw.out.mono (Nat.le_of_lt hgT.out)))
   have hgw:Hid (W1.heap.size<wr.heap.size):=zh (by have:=hK.out.size;have:=hz.out;omega)
   clear hK hl hbw
   go_wp2_with fail
   clear c6
   generalize wr=wa at *
   go_loopw [75] (fun i wr=>∃ (j:Nat),i=.int .i64 j∧j≤o.code.length∧Hid (Below wa.heap.size wa wr)∧Hid (∀ i,i<j→T.getD i false=true∨Ins.isIns (o.code.getD i 0)=true)) (fun i _=>o.code.length-(intOf i).toNat)
   case atStart=>exact⟨0,rfl,by omega,zh (Below.refl _ _),zh (fun i hi=>by omega)⟩
   case round=>
    obtain⟨j,rfl,hj,hb,hall⟩:=hrel
    have hB9:Hid (Below w.heap.size w wr):=zh (Bwr.out.trans (hb.out.mono Bwr.out.size))
    by_cases hjl:(j:Int)<(o.code.length:Int)
    ·have hjn:j<o.code.length:=by omega
     obtain⟨-,A9,c9,e9,hc⟩:=hRc.out
     injection e9 with e9 _ e10
     subst e9 e10
     obtain⟨ad,rfl,had,hx⟩:=hc j hjn
     have hx:wr.cell? (ad.add j)=some (.int .u32 (o.code.getD j 0)):=(hb.out.cell (p:=ad.add j) (by rw[block_add];exact had)).trans hx
     have hxb:=hw (o.code.getD j 0) (by rw[List.getD_eq_getElem?_getD,List.getElem?_eq_getElem hjn];exact List.getElem_mem _)
     have RD:=fun W=>zh (risc_decode (o.code.getD j 0) W hxb.1 (by omega))
     have own9:=zh (fc_own_below hown.out hb.out)
     have hyes:=zh (show (T.getD j false=true∨Ins.isIns (o.code.getD j 0)=true)→∀ i,i<j+1→T.getD i false=true∨Ins.isIns (o.code.getD i 0)=true from fun h i hi=>by
      by_cases e:i=j
      ·rw[e];exact h
      ·exact hall.out i (by omega))
     have hno:=zh (fun h1 h2=>codedB_bad hlo.out hjn h1 h2)
     clear hc hall
     generalize o.code.getD j 0=x at *
     go_wp2_with fail
     refine(RD _).out.mono ?_
     rintro e W9 ⟨rfl,hb9⟩
     have own10:=zh (fc_own_below own9.out hb9)
     have B10:=zh (hB9.out.trans (hb9.mono hB9.out.size))
     have ca:=own10.out.cellAt j (by omega)
     rw[bools_at (by omega)] at ca
     have hlt9:=(own10.out.lt _ rfl).2
     have hb10:=zh (hb.out.trans (hb9.mono hb.out.size))
     have hwa:=zh hb10.out.size
     have hw9:=zh B10.out.size
     clear hx RD own9 own10
     simp only[Ins.val,Ins.cells]
     generalize hD:Ins.dec x=X
     clear hD
     have hde:Ins.derr x=if Ins.isIns x=true then 0 else 20:=rfl
     rw[hde]
     clear hde
     cases hI:Ins.isIns x
     ·rw[if_neg (by simp)]
      cases hA:T.getD j false
      ·have hres:=zh (hno.out hA hI)
       rw[hA] at ca
       clear hA hI hyes hno
       go_wp2_with fail
       go_ret
       refine⟨og_ret hres.out.symm,?_⟩
       exact B10.out.alloc hw9.out _
      ·have hres:=zh (hyes.out (Or.inl hA))
       rw[hA] at ca
       clear hA hI hyes hno
       go_wp2_with fail
       refine⟨⟨j+1,by go_num,by omega,zh ?_,hres⟩,by simp[intOf];omega⟩
       exact hb10.out.alloc hwa.out _
     ·rw[if_pos rfl]
      have hres:=zh (hyes.out (Or.inr hI))
      cases hA:T.getD j false
      ·rw[hA] at ca
       clear hA hI hyes hno
       go_wp2_with fail
       refine⟨⟨j+1,by go_num,by omega,zh ?_,hres⟩,by simp[intOf];omega⟩
       exact hb10.out.alloc hwa.out _
      ·rw[hA] at ca
       clear hA hI hyes hno
       go_wp2_with fail
       refine⟨⟨j+1,by go_num,by omega,zh ?_,hres⟩,by simp[intOf];omega⟩
       exact hb10.out.alloc hwa.out _
    ·obtain rfl:j=o.code.length:=by omega
     have hres:=zh (codedB_yes hlo.out hall.out)
     go_wp2_with fail
     go_ret
     exact⟨og_ret hres.out.symm,hB9.out⟩
end Go.Proofs.YtceflhffilldeaaGreat
namespace Go.Proofs.YtceflhffilldeaaGreat
open Go.RowKit ObjL
end Go.Proofs.YtceflhffilldeaaGreat
