/-
  Joined: ZAlu.
-/
import Derived.Test.YtceflhffilldeaaGreatZBits
import Derived.Test.YtceflhffilldeaaGreatZAluLaw
set_option linter.unusedVariables false
set_option linter.unusedSimpArgs false
set_option maxRecDepth 100000
set_option maxHeartbeats 16000000
namespace Go.Proofs.YtceflhffilldeaaGreat
open Go.RowKit Bw
theorem two_ints {k1 k2:IntKind} {a b c d:Int} (h:a=b) (h':c=d):Ending.returned (.tuple #[.int k1 a,.int k2 c])=.returned (.tuple #[.int k1 b,.int k2 d]):=by rw[h,h']
theorem alu_over (x:Int) (w:World) (hx:-9223372036854775808≤x) (hx':x≤9223372036854775807) :
  Calls Tryz.prog 163 #[.int .i64 x] w fun e w'=>e=.returned (.bool (Alu.out x))∧w=w':=by
 go_enter Tryz.func163,Tryz.ntmps163
 go_wp2
 go_ret
 exact⟨ret_bool (out_eq x hx hx'),rfl⟩
theorem alu_product (u:Bool) (b n:Int) (w:World) (hb:0≤b) (hb':b<4294967296) (hn:0≤n) (hn':n<4294967296) :
  Calls Tryz.prog 164 #[.bool u,.int .u32 b,.int .u32 n] w fun e w'=>e=.returned (.tuple #[.int .u32 (Alu.prod u b n % 4294967296),.int .u32 (Alu.prod u b n / 4294967296 % 4294967296)])∧w=w':=by
 have hbb:=wrap32_bd b
 have hbn:=wrap32_bd n
 have hm:=mul_bd _ _ hbb hbn
 cases u
 ·go_enter Tryz.func164,Tryz.ntmps164
  go_wp2
  go_ret2
  exact⟨two_ints (low_word _) (high_word _),rfl⟩
 ·go_enter Tryz.func164,Tryz.ntmps164
  go_wp2
  go_ret2
  exact⟨two_ints (low_word _) (high_word _),rfl⟩
theorem alu_quotient (b n:Int) (w:World) (hb:0≤b) (hb':b<4294967296) (hn:0≤n) (hn':n<4294967296) :
  Calls Tryz.prog 165 #[.int .u32 b,.int .u32 n] w fun e w'=>e=.returned (.tuple #[.int .u32 (Alu.R 11 false b n 0 Fl.zero),.int .u32 (Alu.H 11 false b n 0)])∧∃ k,w'=w.drewN k:=by
 have hbb:=wrap32_bd b
 have hbn:=wrap32_bd n
 by_cases h0:0<wrap32 n
 ·have h1:(wrap32 n==0)=false:=by simp;omega
  have t1:=tdiv_bd _ _ hbb h0
  have t2:=tmod_bd (wrap32 b) _ h0
  go_enter Tryz.func165,Tryz.ntmps165
  go_wp2
  go_quiet (fail)
  go_wp2
  ·go_ret2
   have q:=quo_neg (wrap32 b) (wrap32 n) h0 (by assumption)
   exact⟨two_ints (by simp[Alu.R,h0,← q.1]) (by simp only[Alu.H,h0,if_true];rw[← q.2];simp),nq,rfl⟩
  ·go_ret2
   have q:=quo_pos (wrap32 b) (wrap32 n) h0 (by assumption)
   exact⟨two_ints (by simp[Alu.R,h0,← q.1]) (by simp only[Alu.H,h0,if_true];rw[← q.2];simp),nq,rfl⟩
 ·go_enter Tryz.func165,Tryz.ntmps165
  go_wp2
  go_ret2
  exact⟨two_ints (by simp[Alu.R];intro;omega) (by simp[Alu.H];intro;omega),0,rfl⟩
theorem below_drewN0 {B:Nat} {a w:World} (h:Below B a w) (n:Nat):Below B a (w.drewN n):=⟨h.os,h.tape,h.output,h.size,h.block⟩
theorem alu_ret {r h R H:Int} {c v:Bool} {F:Fl} (h1:r=R) (hb:0≤R∧R<4294967296) (h2:h=H) (hn:F.n=decide (2147483648≤R)) (hz:F.z=decide (R=0)) (hc:c=F.c) (hv:v=F.v) :
  Ending.returned (.tuple #[.int .u32 r,.int .u32 h,.agg #[.bool (r / 2147483648==1),.bool (r==0),.bool c,.bool v],.bool true])=.returned (.tuple #[.int .u32 R,.int .u32 H,.agg #[.bool F.n,.bool F.z,.bool F.c,.bool F.v],.bool true]):=by
 subst h1 h2 hc hv
 have e1:(r / 2147483648==1)=F.n:=by
  rw[hn,Bool.eq_iff_iff];simp;omega
 have e2:(r==0)=F.z:=by rw[hz];rfl
 rw[e1,e2]
end Go.Proofs.YtceflhffilldeaaGreat
namespace Go.Proofs.YtceflhffilldeaaGreat
open Go.RowKit Bw
theorem alu_do_0 (b n h:Int) (fn fz fc fv:Bool) (w:World) (hb:0≤b) (hb':b<4294967296) (hn:0≤n) (hn':n<4294967296) (hh:0≤h) (hh':h<4294967296) :
  Calls Tryz.prog 132 #[.int .i64 0,.bool false,.int .u32 b,.int .u32 n,.int .u32 h,Fl.val ⟨fn,fz,fc,fv⟩] w fun e w'=>
   e=.returned (.tuple #[.int .u32 (Alu.R 0 false b n h ⟨fn,fz,fc,fv⟩),.int .u32 (Alu.H 0 false b n h),(Alu.F 0 false b n h ⟨fn,fz,fc,fv⟩).val,.bool true])∧Below w.heap.size w w':=by
 simp only[Fl.val,Fl.cells]
 go_enter Tryz.func132,Tryz.ntmps132
 go_wp2_with fail
 go_region
 all_goals go_wp2_with fail
 all_goals refine bodyPost_ret (by simp only[results,Tryz.results132];go_simp;rfl) rfl ⟨?_,?_⟩
 all_goals first | exact alu_ret (by first | (simp[Alu.R,Alu.carry,Alu.prod];done) | (simp[Alu.R,Alu.carry];omega)) (Alu.R_bd _ _ _ _ _ _ hb hb' hn hn' hh hh') (by simp[Alu.H,Alu.prod]) rfl rfl (by first | (simp[Alu.F,Alu.C,Alu.carry];done) | (rw[Bool.eq_iff_iff];simp[Alu.F,Alu.C,Alu.carry];omega)) (by simp[Alu.F,Alu.V,Alu.carry]) | skip
 all_goals (repeat (first | with_reducible exact Below.refl _ _ | with_reducible apply Below.drew | with_reducible refine Below.setCell ?_ (by simp) _ | with_reducible refine Below.alloc ?_ (by simp) _ | with_reducible refine below_drewN0 ?_ _))
theorem alu_do_0un (b n h:Int) (fn fz fv:Bool) (w:World) (hb:0≤b) (hb':b<4294967296) (hn:0≤n) (hn':n<4294967296) (hh:0≤h) (hh':h<4294967296) :
  Calls Tryz.prog 132 #[.int .i64 0,.bool true,.int .u32 b,.int .u32 n,.int .u32 h,Fl.val ⟨fn,fz,false,fv⟩] w fun e w'=>
   e=.returned (.tuple #[.int .u32 (Alu.R 0 true b n h ⟨fn,fz,false,fv⟩),.int .u32 (Alu.H 0 true b n h),(Alu.F 0 true b n h ⟨fn,fz,false,fv⟩).val,.bool true])∧Below w.heap.size w w':=by
 simp only[Fl.val,Fl.cells]
 go_enter Tryz.func132,Tryz.ntmps132
 go_wp2_with fail
 go_region
 all_goals go_wp2_with fail
 all_goals refine bodyPost_ret (by simp only[results,Tryz.results132];go_simp;rfl) rfl ⟨?_,?_⟩
 all_goals first | exact alu_ret (by first | (simp[Alu.R,Alu.carry,Alu.prod];done) | (simp[Alu.R,Alu.carry];omega)) (Alu.R_bd _ _ _ _ _ _ hb hb' hn hn' hh hh') (by simp[Alu.H,Alu.prod]) rfl rfl (by first | (simp[Alu.F,Alu.C,Alu.carry];done) | (rw[Bool.eq_iff_iff];simp[Alu.F,Alu.C,Alu.carry];omega)) (by simp[Alu.F,Alu.V,Alu.carry]) | skip
 all_goals (repeat (first | with_reducible exact Below.refl _ _ | with_reducible apply Below.drew | with_reducible refine Below.setCell ?_ (by simp) _ | with_reducible refine Below.alloc ?_ (by simp) _ | with_reducible refine below_drewN0 ?_ _))
theorem alu_do_0uc (b n h:Int) (fn fz fv:Bool) (w:World) (hb:0≤b) (hb':b<4294967296) (hn:0≤n) (hn':n<4294967296) (hh:0≤h) (hh':h<4294967296) :
  Calls Tryz.prog 132 #[.int .i64 0,.bool true,.int .u32 b,.int .u32 n,.int .u32 h,Fl.val ⟨fn,fz,true,fv⟩] w fun e w'=>
   e=.returned (.tuple #[.int .u32 (Alu.R 0 true b n h ⟨fn,fz,true,fv⟩),.int .u32 (Alu.H 0 true b n h),(Alu.F 0 true b n h ⟨fn,fz,true,fv⟩).val,.bool true])∧Below w.heap.size w w':=by
 simp only[Fl.val,Fl.cells]
 go_enter Tryz.func132,Tryz.ntmps132
 go_wp2_with fail
 go_region
 all_goals go_wp2_with fail
 all_goals refine bodyPost_ret (by simp only[results,Tryz.results132];go_simp;rfl) rfl ⟨?_,?_⟩
 all_goals first | exact alu_ret (by first | (simp[Alu.R,Alu.carry,Alu.prod];done) | (simp[Alu.R,Alu.carry];omega)) (Alu.R_bd _ _ _ _ _ _ hb hb' hn hn' hh hh') (by simp[Alu.H,Alu.prod]) rfl rfl (by first | (simp[Alu.F,Alu.C,Alu.carry];done) | (rw[Bool.eq_iff_iff];simp[Alu.F,Alu.C,Alu.carry];omega)) (by simp[Alu.F,Alu.V,Alu.carry]) | skip
 all_goals (repeat (first | with_reducible exact Below.refl _ _ | with_reducible apply Below.drew | with_reducible refine Below.setCell ?_ (by simp) _ | with_reducible refine Below.alloc ?_ (by simp) _ | with_reducible refine below_drewN0 ?_ _))
theorem alu_do_1 (b n h:Int) (fn fz fc fv:Bool) (w:World) (hb:0≤b) (hb':b<4294967296) (hn:0≤n) (hn':n<4294967296) (hh:0≤h) (hh':h<4294967296) :
  Calls Tryz.prog 132 #[.int .i64 1,.bool false,.int .u32 b,.int .u32 n,.int .u32 h,Fl.val ⟨fn,fz,fc,fv⟩] w fun e w'=>
   e=.returned (.tuple #[.int .u32 (Alu.R 1 false b n h ⟨fn,fz,fc,fv⟩),.int .u32 (Alu.H 1 false b n h),(Alu.F 1 false b n h ⟨fn,fz,fc,fv⟩).val,.bool true])∧Below w.heap.size w w':=by
 simp only[Fl.val,Fl.cells]
 go_enter Tryz.func132,Tryz.ntmps132
 go_wp2_with fail
 refine(bits_lsl b n _ hb hb' hn hn').mono ?_
 rintro e w' ⟨rfl,rfl⟩
 go_wp2_with fail
 go_region
 all_goals go_wp2_with fail
 all_goals refine bodyPost_ret (by simp only[results,Tryz.results132];go_simp;rfl) rfl ⟨?_,?_⟩
 all_goals first | exact alu_ret (by first | (simp[Alu.R,Alu.carry,Alu.prod];done) | (simp[Alu.R,Alu.carry];omega)) (Alu.R_bd _ _ _ _ _ _ hb hb' hn hn' hh hh') (by simp[Alu.H,Alu.prod]) rfl rfl (by first | (simp[Alu.F,Alu.C,Alu.carry];done) | (rw[Bool.eq_iff_iff];simp[Alu.F,Alu.C,Alu.carry];omega)) (by simp[Alu.F,Alu.V,Alu.carry]) | skip
 all_goals (repeat (first | with_reducible exact Below.refl _ _ | with_reducible apply Below.drew | with_reducible refine Below.setCell ?_ (by simp) _ | with_reducible refine Below.alloc ?_ (by simp) _ | with_reducible refine below_drewN0 ?_ _))
theorem alu_do_2 (b n h:Int) (fn fz fc fv:Bool) (w:World) (hb:0≤b) (hb':b<4294967296) (hn:0≤n) (hn':n<4294967296) (hh:0≤h) (hh':h<4294967296) :
  Calls Tryz.prog 132 #[.int .i64 2,.bool false,.int .u32 b,.int .u32 n,.int .u32 h,Fl.val ⟨fn,fz,fc,fv⟩] w fun e w'=>
   e=.returned (.tuple #[.int .u32 (Alu.R 2 false b n h ⟨fn,fz,fc,fv⟩),.int .u32 (Alu.H 2 false b n h),(Alu.F 2 false b n h ⟨fn,fz,fc,fv⟩).val,.bool true])∧Below w.heap.size w w':=by
 simp only[Fl.val,Fl.cells]
 go_enter Tryz.func132,Tryz.ntmps132
 go_wp2_with fail
 refine(bits_asr b n _ hb hb' hn hn').mono ?_
 rintro e w' ⟨rfl,rfl⟩
 go_wp2_with fail
 go_region
 all_goals go_wp2_with fail
 all_goals refine bodyPost_ret (by simp only[results,Tryz.results132];go_simp;rfl) rfl ⟨?_,?_⟩
 all_goals first | exact alu_ret (by first | (simp[Alu.R,Alu.carry,Alu.prod];done) | (simp[Alu.R,Alu.carry];omega)) (Alu.R_bd _ _ _ _ _ _ hb hb' hn hn' hh hh') (by simp[Alu.H,Alu.prod]) rfl rfl (by first | (simp[Alu.F,Alu.C,Alu.carry];done) | (rw[Bool.eq_iff_iff];simp[Alu.F,Alu.C,Alu.carry];omega)) (by simp[Alu.F,Alu.V,Alu.carry]) | skip
 all_goals (repeat (first | with_reducible exact Below.refl _ _ | with_reducible apply Below.drew | with_reducible refine Below.setCell ?_ (by simp) _ | with_reducible refine Below.alloc ?_ (by simp) _ | with_reducible refine below_drewN0 ?_ _))
theorem alu_do_3 (b n h:Int) (fn fz fc fv:Bool) (w:World) (hb:0≤b) (hb':b<4294967296) (hn:0≤n) (hn':n<4294967296) (hh:0≤h) (hh':h<4294967296) :
  Calls Tryz.prog 132 #[.int .i64 3,.bool false,.int .u32 b,.int .u32 n,.int .u32 h,Fl.val ⟨fn,fz,fc,fv⟩] w fun e w'=>
   e=.returned (.tuple #[.int .u32 (Alu.R 3 false b n h ⟨fn,fz,fc,fv⟩),.int .u32 (Alu.H 3 false b n h),(Alu.F 3 false b n h ⟨fn,fz,fc,fv⟩).val,.bool true])∧Below w.heap.size w w':=by
 simp only[Fl.val,Fl.cells]
 go_enter Tryz.func132,Tryz.ntmps132
 go_wp2_with fail
 refine(bits_ror b n _ hb hb' hn hn').mono ?_
 rintro e w' ⟨rfl,rfl⟩
 go_wp2_with fail
 go_region
 all_goals go_wp2_with fail
 all_goals refine bodyPost_ret (by simp only[results,Tryz.results132];go_simp;rfl) rfl ⟨?_,?_⟩
 all_goals first | exact alu_ret (by first | (simp[Alu.R,Alu.carry,Alu.prod];done) | (simp[Alu.R,Alu.carry];omega)) (Alu.R_bd _ _ _ _ _ _ hb hb' hn hn' hh hh') (by simp[Alu.H,Alu.prod]) rfl rfl (by first | (simp[Alu.F,Alu.C,Alu.carry];done) | (rw[Bool.eq_iff_iff];simp[Alu.F,Alu.C,Alu.carry];omega)) (by simp[Alu.F,Alu.V,Alu.carry]) | skip
 all_goals (repeat (first | with_reducible exact Below.refl _ _ | with_reducible apply Below.drew | with_reducible refine Below.setCell ?_ (by simp) _ | with_reducible refine Below.alloc ?_ (by simp) _ | with_reducible refine below_drewN0 ?_ _))
end Go.Proofs.YtceflhffilldeaaGreat
