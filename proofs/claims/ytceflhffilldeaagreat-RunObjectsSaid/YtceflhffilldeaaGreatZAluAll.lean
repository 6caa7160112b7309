/-
  Joined: ZAluAll.
-/
import Derived.Test.YtceflhffilldeaaGreatZAluB
import Derived.Test.YtceflhffilldeaaGreatZAluC
import Derived.Test.YtceflhffilldeaaGreatZAluD
set_option linter.unusedVariables false
set_option linter.unusedSimpArgs false
set_option maxRecDepth 100000
set_option maxHeartbeats 16000000
namespace Go.Proofs.YtceflhffilldeaaGreat
open Go.RowKit Bw
end Go.Proofs.YtceflhffilldeaaGreat
namespace Go.Proofs.YtceflhffilldeaaGreat
open Go.RowKit Bw
end Go.Proofs.YtceflhffilldeaaGreat
namespace Go.Proofs.YtceflhffilldeaaGreat
open Go.RowKit Bw
end Go.Proofs.YtceflhffilldeaaGreat
namespace Go.Proofs.YtceflhffilldeaaGreat
open Go.RowKit Bw
end Go.Proofs.YtceflhffilldeaaGreat
namespace Go.Proofs.YtceflhffilldeaaGreat
open Go.RowKit Bw
end Go.Proofs.YtceflhffilldeaaGreat
namespace Go.Proofs.YtceflhffilldeaaGreat
open Go.RowKit Bw
theorem alu_do_yes (op:Int) (u:Bool) (b n h:Int) (f:Fl) (w:World) (hb:0≤b) (hb':b<4294967296) (hn:0≤n) (hn':n<4294967296) (hh:0≤h) (hh':h<4294967296) (hok:Alu.okOp op u=true) :
  Calls Tryz.prog 132 #[.int .i64 op,.bool u,.int .u32 b,.int .u32 n,.int .u32 h,f.val] w fun e w'=>e=.returned (.tuple #[.int .u32 (Alu.R op u b n h f),.int .u32 (Alu.H op u b n h),(Alu.F op u b n h f).val,.bool true])∧Below w.heap.size w w':=by
 obtain⟨fn,fz,fc,fv⟩:=f
 simp only[Alu.okOp,Bool.and_eq_true,decide_eq_true_eq,Bool.or_eq_true,Bool.not_eq_true'] at hok
 obtain⟨⟨o1,o2⟩,hok⟩:=hok
 cases u
 ·have h12:op=0∨op=1∨op=2∨op=3∨op=4∨op=5∨op=6∨op=7∨op=8∨op=9∨op=10∨op=11:=by omega
  rcases h12 with rfl | rfl | rfl | rfl | rfl | rfl | rfl | rfl | rfl | rfl | rfl | rfl
  ·exact alu_do_0 b n h fn fz fc fv w hb hb' hn hn' hh hh'
  ·exact alu_do_1 b n h fn fz fc fv w hb hb' hn hn' hh hh'
  ·exact alu_do_2 b n h fn fz fc fv w hb hb' hn hn' hh hh'
  ·exact alu_do_3 b n h fn fz fc fv w hb hb' hn hn' hh hh'
  ·exact alu_do_4 b n h fn fz fc fv w hb hb' hn hn' hh hh'
  ·exact alu_do_5 b n h fn fz fc fv w hb hb' hn hn' hh hh'
  ·exact alu_do_6 b n h fn fz fc fv w hb hb' hn hn' hh hh'
  ·exact alu_do_7 b n h fn fz fc fv w hb hb' hn hn' hh hh'
  ·exact alu_do_8 b n h fn fz fc fv w hb hb' hn hn' hh hh'
  ·exact alu_do_9 b n h fn fz fc fv w hb hb' hn hn' hh hh'
  ·exact alu_do_10 b n h fn fz fc fv w hb hb' hn hn' hh hh'
  ·exact alu_do_11 b n h fn fz fc fv w hb hb' hn hn' hh hh'
 ·have h4:op=0∨op=8∨op=9∨op=10:=by
   rcases hok with h | h
   ·cases h
   ·omega
  rcases h4 with rfl | rfl | rfl | rfl<;>cases fc
  ·exact alu_do_0un b n h fn fz fv w hb hb' hn hn' hh hh'
  ·exact alu_do_0uc b n h fn fz fv w hb hb' hn hn' hh hh'
  ·exact alu_do_8un b n h fn fz fv w hb hb' hn hn' hh hh'
  ·exact alu_do_8uc b n h fn fz fv w hb hb' hn hn' hh hh'
  ·exact alu_do_9un b n h fn fz fv w hb hb' hn hn' hh hh'
  ·exact alu_do_9uc b n h fn fz fv w hb hb' hn hn' hh hh'
  ·exact alu_do_10un b n h fn fz fv w hb hb' hn hn' hh hh'
  ·exact alu_do_10uc b n h fn fz fv w hb hb' hn hn' hh hh'
end Go.Proofs.YtceflhffilldeaaGreat
namespace Go.Proofs.YtceflhffilldeaaGreat
open Go.RowKit Bw
theorem ret_b {a b:Bool} (h:a=b):Ending.returned (.bool a)=.returned (.bool b):=by rw[h]
theorem alu_holds_0 (f:Fl) (w:World) :
  Calls Tryz.prog 130 #[.int .i64 0,f.val] w fun e w'=>e=.returned (.bool (Alu.holds 0 f))∧Below w.heap.size w w':=by
 obtain⟨fn,fz,fc,fv⟩:=f
 simp only[Fl.val,Fl.cells]
 go_enter Tryz.func130,Tryz.ntmps130
 go_wp2
 all_goals go_ret
 all_goals refine⟨ret_b ?_,?_⟩
 all_goals first | (repeat (first | with_reducible exact Below.refl _ _ | with_reducible apply Below.drew | with_reducible refine Below.setCell ?_ (by simp) _ | with_reducible refine Below.alloc ?_ (by first | (simp;done) | (simp;omega)) _)) | skip
 all_goals first | (simp_all[Alu.holds,Alu.base];done) | (cases fn<;>cases fz<;>cases fc<;>cases fv<;>simp_all[Alu.holds,Alu.base])
theorem alu_holds_1 (f:Fl) (w:World) :
  Calls Tryz.prog 130 #[.int .i64 1,f.val] w fun e w'=>e=.returned (.bool (Alu.holds 1 f))∧Below w.heap.size w w':=by
 obtain⟨fn,fz,fc,fv⟩:=f
 simp only[Fl.val,Fl.cells]
 go_enter Tryz.func130,Tryz.ntmps130
 go_wp2
 all_goals go_ret
 all_goals refine⟨ret_b ?_,?_⟩
 all_goals first | (repeat (first | with_reducible exact Below.refl _ _ | with_reducible apply Below.drew | with_reducible refine Below.setCell ?_ (by simp) _ | with_reducible refine Below.alloc ?_ (by first | (simp;done) | (simp;omega)) _)) | skip
 all_goals first | (simp_all[Alu.holds,Alu.base];done) | (cases fn<;>cases fz<;>cases fc<;>cases fv<;>simp_all[Alu.holds,Alu.base])
theorem alu_holds_2 (f:Fl) (w:World) :
  Calls Tryz.prog 130 #[.int .i64 2,f.val] w fun e w'=>e=.returned (.bool (Alu.holds 2 f))∧Below w.heap.size w w':=by
 obtain⟨fn,fz,fc,fv⟩:=f
 simp only[Fl.val,Fl.cells]
 go_enter Tryz.func130,Tryz.ntmps130
 go_wp2
 all_goals go_ret
 all_goals refine⟨ret_b ?_,?_⟩
 all_goals first | (repeat (first | with_reducible exact Below.refl _ _ | with_reducible apply Below.drew | with_reducible refine Below.setCell ?_ (by simp) _ | with_reducible refine Below.alloc ?_ (by first | (simp;done) | (simp;omega)) _)) | skip
 all_goals first | (simp_all[Alu.holds,Alu.base];done) | (cases fn<;>cases fz<;>cases fc<;>cases fv<;>simp_all[Alu.holds,Alu.base])
theorem alu_holds_3 (f:Fl) (w:World) :
  Calls Tryz.prog 130 #[.int .i64 3,f.val] w fun e w'=>e=.returned (.bool (Alu.holds 3 f))∧Below w.heap.size w w':=by
 obtain⟨fn,fz,fc,fv⟩:=f
 simp only[Fl.val,Fl.cells]
 go_enter Tryz.func130,Tryz.ntmps130
 go_wp2
 all_goals go_ret
 all_goals refine⟨ret_b ?_,?_⟩
 all_goals first | (repeat (first | with_reducible exact Below.refl _ _ | with_reducible apply Below.drew | with_reducible refine Below.setCell ?_ (by simp) _ | with_reducible refine Below.alloc ?_ (by first | (simp;done) | (simp;omega)) _)) | skip
 all_goals first | (simp_all[Alu.holds,Alu.base];done) | (cases fn<;>cases fz<;>cases fc<;>cases fv<;>simp_all[Alu.holds,Alu.base])
theorem alu_holds_4 (f:Fl) (w:World) :
  Calls Tryz.prog 130 #[.int .i64 4,f.val] w fun e w'=>e=.returned (.bool (Alu.holds 4 f))∧Below w.heap.size w w':=by
 obtain⟨fn,fz,fc,fv⟩:=f
 simp only[Fl.val,Fl.cells]
 go_enter Tryz.func130,Tryz.ntmps130
 go_wp2
 all_goals go_ret
 all_goals refine⟨ret_b ?_,?_⟩
 all_goals first | (repeat (first | with_reducible exact Below.refl _ _ | with_reducible apply Below.drew | with_reducible refine Below.setCell ?_ (by simp) _ | with_reducible refine Below.alloc ?_ (by first | (simp;done) | (simp;omega)) _)) | skip
 all_goals first | (simp_all[Alu.holds,Alu.base];done) | (cases fn<;>cases fz<;>cases fc<;>cases fv<;>simp_all[Alu.holds,Alu.base])
theorem alu_holds_5 (f:Fl) (w:World) :
  Calls Tryz.prog 130 #[.int .i64 5,f.val] w fun e w'=>e=.returned (.bool (Alu.holds 5 f))∧Below w.heap.size w w':=by
 obtain⟨fn,fz,fc,fv⟩:=f
 simp only[Fl.val,Fl.cells]
 go_enter Tryz.func130,Tryz.ntmps130
 go_wp2
 all_goals go_ret
 all_goals refine⟨ret_b ?_,?_⟩
 all_goals first | (repeat (first | with_reducible exact Below.refl _ _ | with_reducible apply Below.drew | with_reducible refine Below.setCell ?_ (by simp) _ | with_reducible refine Below.alloc ?_ (by first | (simp;done) | (simp;omega)) _)) | skip
 all_goals first | (simp_all[Alu.holds,Alu.base];done) | (cases fn<;>cases fz<;>cases fc<;>cases fv<;>simp_all[Alu.holds,Alu.base])
theorem alu_holds_6 (f:Fl) (w:World) :
  Calls Tryz.prog 130 #[.int .i64 6,f.val] w fun e w'=>e=.returned (.bool (Alu.holds 6 f))∧Below w.heap.size w w':=by
 obtain⟨fn,fz,fc,fv⟩:=f
 simp only[Fl.val,Fl.cells]
 go_enter Tryz.func130,Tryz.ntmps130
 go_wp2
 all_goals go_ret
 all_goals refine⟨ret_b ?_,?_⟩
 all_goals first | (repeat (first | with_reducible exact Below.refl _ _ | with_reducible apply Below.drew | with_reducible refine Below.setCell ?_ (by simp) _ | with_reducible refine Below.alloc ?_ (by first | (simp;done) | (simp;omega)) _)) | skip
 all_goals first | (simp_all[Alu.holds,Alu.base];done) | (cases fn<;>cases fz<;>cases fc<;>cases fv<;>simp_all[Alu.holds,Alu.base])
theorem alu_holds_7 (f:Fl) (w:World) :
  Calls Tryz.prog 130 #[.int .i64 7,f.val] w fun e w'=>e=.returned (.bool (Alu.holds 7 f))∧Below w.heap.size w w':=by
 obtain⟨fn,fz,fc,fv⟩:=f
 simp only[Fl.val,Fl.cells]
 go_enter Tryz.func130,Tryz.ntmps130
 go_wp2
 all_goals go_ret
 all_goals refine⟨ret_b ?_,?_⟩
 all_goals first | (repeat (first | with_reducible exact Below.refl _ _ | with_reducible apply Below.drew | with_reducible refine Below.setCell ?_ (by simp) _ | with_reducible refine Below.alloc ?_ (by first | (simp;done) | (simp;omega)) _)) | skip
 all_goals first | (simp_all[Alu.holds,Alu.base];done) | (cases fn<;>cases fz<;>cases fc<;>cases fv<;>simp_all[Alu.holds,Alu.base])
theorem alu_holds_8 (f:Fl) (w:World) :
  Calls Tryz.prog 130 #[.int .i64 8,f.val] w fun e w'=>e=.returned (.bool (Alu.holds 8 f))∧Below w.heap.size w w':=by
 obtain⟨fn,fz,fc,fv⟩:=f
 simp only[Fl.val,Fl.cells]
 go_enter Tryz.func130,Tryz.ntmps130
 go_wp2
 all_goals go_ret
 all_goals refine⟨ret_b ?_,?_⟩
 all_goals first | (repeat (first | with_reducible exact Below.refl _ _ | with_reducible apply Below.drew | with_reducible refine Below.setCell ?_ (by simp) _ | with_reducible refine Below.alloc ?_ (by first | (simp;done) | (simp;omega)) _)) | skip
 all_goals first | (simp_all[Alu.holds,Alu.base];done) | (cases fn<;>cases fz<;>cases fc<;>cases fv<;>simp_all[Alu.holds,Alu.base])
theorem alu_holds_9 (f:Fl) (w:World) :
  Calls Tryz.prog 130 #[.int .i64 9,f.val] w fun e w'=>e=.returned (.bool (Alu.holds 9 f))∧Below w.heap.size w w':=by
 obtain⟨fn,fz,fc,fv⟩:=f
 simp only[Fl.val,Fl.cells]
 go_enter Tryz.func130,Tryz.ntmps130
 go_wp2
 all_goals go_ret
 all_goals refine⟨ret_b ?_,?_⟩
 all_goals first | (repeat (first | with_reducible exact Below.refl _ _ | with_reducible apply Below.drew | with_reducible refine Below.setCell ?_ (by simp) _ | with_reducible refine Below.alloc ?_ (by first | (simp;done) | (simp;omega)) _)) | skip
 all_goals first | (simp_all[Alu.holds,Alu.base];done) | (cases fn<;>cases fz<;>cases fc<;>cases fv<;>simp_all[Alu.holds,Alu.base])
theorem alu_holds_10 (f:Fl) (w:World) :
  Calls Tryz.prog 130 #[.int .i64 10,f.val] w fun e w'=>e=.returned (.bool (Alu.holds 10 f))∧Below w.heap.size w w':=by
 obtain⟨fn,fz,fc,fv⟩:=f
 simp only[Fl.val,Fl.cells]
 go_enter Tryz.func130,Tryz.ntmps130
 go_wp2
 all_goals go_ret
 all_goals refine⟨ret_b ?_,?_⟩
 all_goals first | (repeat (first | with_reducible exact Below.refl _ _ | with_reducible apply Below.drew | with_reducible refine Below.setCell ?_ (by simp) _ | with_reducible refine Below.alloc ?_ (by first | (simp;done) | (simp;omega)) _)) | skip
 all_goals first | (simp_all[Alu.holds,Alu.base];done) | (cases fn<;>cases fz<;>cases fc<;>cases fv<;>simp_all[Alu.holds,Alu.base])
theorem alu_holds_11 (f:Fl) (w:World) :
  Calls Tryz.prog 130 #[.int .i64 11,f.val] w fun e w'=>e=.returned (.bool (Alu.holds 11 f))∧Below w.heap.size w w':=by
 obtain⟨fn,fz,fc,fv⟩:=f
 simp only[Fl.val,Fl.cells]
 go_enter Tryz.func130,Tryz.ntmps130
 go_wp2
 all_goals go_ret
 all_goals refine⟨ret_b ?_,?_⟩
 all_goals first | (repeat (first | with_reducible exact Below.refl _ _ | with_reducible apply Below.drew | with_reducible refine Below.setCell ?_ (by simp) _ | with_reducible refine Below.alloc ?_ (by first | (simp;done) | (simp;omega)) _)) | skip
 all_goals first | (simp_all[Alu.holds,Alu.base];done) | (cases fn<;>cases fz<;>cases fc<;>cases fv<;>simp_all[Alu.holds,Alu.base])
theorem alu_holds_12 (f:Fl) (w:World) :
  Calls Tryz.prog 130 #[.int .i64 12,f.val] w fun e w'=>e=.returned (.bool (Alu.holds 12 f))∧Below w.heap.size w w':=by
 obtain⟨fn,fz,fc,fv⟩:=f
 simp only[Fl.val,Fl.cells]
 go_enter Tryz.func130,Tryz.ntmps130
 go_wp2
 all_goals go_ret
 all_goals refine⟨ret_b ?_,?_⟩
 all_goals first | (repeat (first | with_reducible exact Below.refl _ _ | with_reducible apply Below.drew | with_reducible refine Below.setCell ?_ (by simp) _ | with_reducible refine Below.alloc ?_ (by first | (simp;done) | (simp;omega)) _)) | skip
 all_goals first | (simp_all[Alu.holds,Alu.base];done) | (cases fn<;>cases fz<;>cases fc<;>cases fv<;>simp_all[Alu.holds,Alu.base])
theorem alu_holds_13 (f:Fl) (w:World) :
  Calls Tryz.prog 130 #[.int .i64 13,f.val] w fun e w'=>e=.returned (.bool (Alu.holds 13 f))∧Below w.heap.size w w':=by
 obtain⟨fn,fz,fc,fv⟩:=f
 simp only[Fl.val,Fl.cells]
 go_enter Tryz.func130,Tryz.ntmps130
 go_wp2
 all_goals go_ret
 all_goals refine⟨ret_b ?_,?_⟩
 all_goals first | (repeat (first | with_reducible exact Below.refl _ _ | with_reducible apply Below.drew | with_reducible refine Below.setCell ?_ (by simp) _ | with_reducible refine Below.alloc ?_ (by first | (simp;done) | (simp;omega)) _)) | skip
 all_goals first | (simp_all[Alu.holds,Alu.base];done) | (cases fn<;>cases fz<;>cases fc<;>cases fv<;>simp_all[Alu.holds,Alu.base])
theorem alu_holds_14 (f:Fl) (w:World) :
  Calls Tryz.prog 130 #[.int .i64 14,f.val] w fun e w'=>e=.returned (.bool (Alu.holds 14 f))∧Below w.heap.size w w':=by
 obtain⟨fn,fz,fc,fv⟩:=f
 simp only[Fl.val,Fl.cells]
 go_enter Tryz.func130,Tryz.ntmps130
 go_wp2
 all_goals go_ret
 all_goals refine⟨ret_b ?_,?_⟩
 all_goals first | (repeat (first | with_reducible exact Below.refl _ _ | with_reducible apply Below.drew | with_reducible refine Below.setCell ?_ (by simp) _ | with_reducible refine Below.alloc ?_ (by first | (simp;done) | (simp;omega)) _)) | skip
 all_goals first | (simp_all[Alu.holds,Alu.base];done) | (cases fn<;>cases fz<;>cases fc<;>cases fv<;>simp_all[Alu.holds,Alu.base])
theorem alu_holds_15 (f:Fl) (w:World) :
  Calls Tryz.prog 130 #[.int .i64 15,f.val] w fun e w'=>e=.returned (.bool (Alu.holds 15 f))∧Below w.heap.size w w':=by
 obtain⟨fn,fz,fc,fv⟩:=f
 simp only[Fl.val,Fl.cells]
 go_enter Tryz.func130,Tryz.ntmps130
 go_wp2
 all_goals go_ret
 all_goals refine⟨ret_b ?_,?_⟩
 all_goals first | (repeat (first | with_reducible exact Below.refl _ _ | with_reducible apply Below.drew | with_reducible refine Below.setCell ?_ (by simp) _ | with_reducible refine Below.alloc ?_ (by first | (simp;done) | (simp;omega)) _)) | skip
 all_goals first | (simp_all[Alu.holds,Alu.base];done) | (cases fn<;>cases fz<;>cases fc<;>cases fv<;>simp_all[Alu.holds,Alu.base])
theorem alu_holds_out (c:Int) (f:Fl) (w:World) (h:c<0∨15<c) (h1:-9223372036854775808≤c) (h2:c≤9223372036854775807) :
  Calls Tryz.prog 130 #[.int .i64 c,f.val] w fun e w'=>e=.returned (.bool (Alu.holds c f))∧Below w.heap.size w w':=by
 obtain⟨fn,fz,fc,fv⟩:=f
 simp only[Fl.val,Fl.cells]
 rcases h with h | h
 all_goals go_enter Tryz.func130,Tryz.ntmps130
 all_goals go_wp2
 all_goals go_ret
 all_goals refine⟨ret_b ?_,?_⟩
 all_goals first | (repeat (first | with_reducible exact Below.refl _ _ | with_reducible apply Below.drew | with_reducible refine Below.setCell ?_ (by simp) _ | with_reducible refine Below.alloc ?_ (by first | (simp;done) | (simp;omega)) _)) | skip
 all_goals first | exact(Alu.holds_out c _ (by omega)).symm | (rw[Alu.holds_out c _ (by omega)];first | rfl | (simp_all;done) | (simp;done) | (simp;omega))
theorem alu_holds (c:Int) (f:Fl) (w:World) (h1:-9223372036854775808≤c) (h2:c≤9223372036854775807) :
  Calls Tryz.prog 130 #[.int .i64 c,f.val] w fun e w'=>e=.returned (.bool (Alu.holds c f))∧Below w.heap.size w w':=by
 by_cases h:c<0∨15<c
 ·exact alu_holds_out c f w h h1 h2
 ·have h16:c=0∨c=1∨c=2∨c=3∨c=4∨c=5∨c=6∨c=7∨c=8∨c=9∨c=10∨c=11∨c=12∨c=13∨c=14∨c=15:=by omega
  rcases h16 with rfl | rfl | rfl | rfl | rfl | rfl | rfl | rfl | rfl | rfl | rfl | rfl | rfl | rfl | rfl | rfl
  ·exact alu_holds_0 f w
  ·exact alu_holds_1 f w
  ·exact alu_holds_2 f w
  ·exact alu_holds_3 f w
  ·exact alu_holds_4 f w
  ·exact alu_holds_5 f w
  ·exact alu_holds_6 f w
  ·exact alu_holds_7 f w
  ·exact alu_holds_8 f w
  ·exact alu_holds_9 f w
  ·exact alu_holds_10 f w
  ·exact alu_holds_11 f w
  ·exact alu_holds_12 f w
  ·exact alu_holds_13 f w
  ·exact alu_holds_14 f w
  ·exact alu_holds_15 f w
end Go.Proofs.YtceflhffilldeaaGreat
