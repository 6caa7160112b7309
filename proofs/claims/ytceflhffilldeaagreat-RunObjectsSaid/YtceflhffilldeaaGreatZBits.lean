/-
  Joined: ZBits.
-/
import Derived.Test.YtceflhffilldeaaGreatProg
import Derived.Test.YtceflhffilldeaaGreatZLaw
import Derived.WalkKit
import Derived.BigQuiet
import Derived.Deep.QuietTactic
import Derived.Lib.Hide
set_option linter.unusedVariables false
set_option linter.unusedSimpArgs false
set_option maxRecDepth 100000
set_option maxHeartbeats 16000000
namespace Go.Proofs.YtceflhffilldeaaGreat
open Go.RowKit Bw
theorem ret_int {k:IntKind} {a b:Int} (h:a=b):Ending.returned (.int k a)=.returned (.int k b):=by rw[h]
theorem ret_bool {a b:Bool} (h:a=b):Ending.returned (.bool a)=.returned (.bool b):=by rw[h]
theorem wrap64_wrap32 (x:Int):wrap64 (wrap32 x)=wrap32 x:=by unfold wrap64 wrap32;omega
theorem quiet_eq {P:Program} {f:FuncId} {args:Array Value} {w:World} {n:Nat} {v:Value}
  (h:Calls P f args (w.drewN n) fun e w'=>e=.returned v∧w.drewN n=w'):Calls P f args (w.drewN n) fun e w''=>e=.returned v∧∃ m,w''=w.drewN m:=
 h.mono fun _ _ ⟨he,hm⟩=>⟨he,n,hm.symm⟩
theorem quiet_add_eq {P:Program} {f:FuncId} {args:Array Value} {w:World} {a n:Nat} {v:Value}
  (h:Calls P f args (w.drewN (a+n)) fun e w'=>e=.returned v∧w.drewN (a+n)=w') :
  Calls P f args (w.drewN (a+n)) fun e w''=>e=.returned v∧∃ m,w''=w.drewN (a+m):=
 h.mono fun _ _ ⟨he,hm⟩=>⟨he,n,hm.symm⟩
theorem bcell {W w1:World} (hb:Below W.heap.size W w1):(∀ b o,b<W.heap.size→w1.cell? ⟨b,o,none⟩=W.cell? ⟨b,o,none⟩)∧(∀ b o,b<W.heap.size→w1.frozen? ⟨b,o,none⟩=W.frozen? ⟨b,o,none⟩):=
 ⟨fun b o h=>hb.cell (p:=⟨b,o,none⟩) h,fun b o h=>hb.frozen (p:=⟨b,o,none⟩) h⟩
theorem bits_lsl (x n:Int) (w:World) (hx:0≤x) (hx':x<4294967296) (hn:0≤n) (hn':n<4294967296) :
  Calls Tryz.prog 160 #[.int .u32 x,.int .u32 n] w fun e w'=>e=.returned (.int .u32 (Lsl x n))∧w=w':=by
 have h1:0≤n % 32:=by omega
 have h2:n % 32<32:=by omega
 go_enter Tryz.func160,Tryz.ntmps160
 go_wp2
 go_ret
 exact⟨rfl,rfl⟩
theorem bits_asr (x n:Int) (w:World) (hx:0≤x) (hx':x<4294967296) (hn:0≤n) (hn':n<4294967296) :
  Calls Tryz.prog 161 #[.int .u32 x,.int .u32 n] w fun e w'=>e=.returned (.int .u32 (Asr x n))∧w=w':=by
 have h1:0≤n % 32:=by omega
 have h2:n % 32<32:=by omega
 go_enter Tryz.func161,Tryz.ntmps161
 go_wp2
 go_ret
 exact⟨rfl,rfl⟩
theorem bits_signed (x:Int) (w:World) (hx:0≤x) (hx':x<4294967296) :
  Calls Tryz.prog 156 #[.int .u32 x] w fun e w'=>e=.returned (.int .i64 (wrap32 x))∧w=w':=by
 go_enter Tryz.func156,Tryz.ntmps156
 go_wp2
 go_ret
 exact⟨ret_int (wrap64_wrap32 x),rfl⟩
theorem bits_rotl (x n:Int) (w:World) (hx:0≤x) (hx':x<4294967296) (hn:-31≤n) (hn':n≤0) :
  Calls Tryz.prog 178 #[.int .u32 x,.int .i64 n] w fun e w'=>e=.returned (.int .u32 (Ror x (-n)))∧w=w':=by
 have h:=u64_and31 n
 have hr:=rotl x n hx hx' hn hn'
 have HR:=Lib.hid hr
 clear hr
 have h0:0≤n % 32:=by omega
 have h1:n % 32<32:=by omega
 go_enter Tryz.func178,Tryz.ntmps178
 go_wp2
 go_ret
 exact⟨ret_int HR.out,rfl⟩
theorem bits_ror (x n:Int) (w:World) (hx:0≤x) (hx':x<4294967296) (hn:0≤n) (hn':n<4294967296) :
  Calls Tryz.prog 162 #[.int .u32 x,.int .u32 n] w fun e w'=>e=.returned (.int .u32 (Ror x n))∧w=w':=by
 have h1:0≤n % 32:=by omega
 have h2:n % 32<32:=by omega
 have HR:=Lib.hid (show Ror x (n % 32)=Ror x n by unfold Ror;rw[show n % 32 % 32=n % 32 by omega])
 go_enter Tryz.func162,Tryz.ntmps162
 go_wp2_with fail
 refine(bits_rotl x _ _ hx hx' (by omega) (by omega)).mono ?_
 rintro e w' ⟨rfl,rfl⟩
 go_wp2_with fail
 go_ret
 exact⟨ret_int HR.out,rfl⟩
theorem bits_inside (lo n:Int) (w:World) (hx:-9223372036854775808≤lo) (hx':lo≤9223372036854775807) (hn:-9223372036854775808≤n) (hn':n≤9223372036854775807) :
  Calls Tryz.prog 154 #[.int .i64 lo,.int .i64 n] w fun e w'=>e=.returned (.bool (may lo n))∧w=w':=by
 go_enter Tryz.func154,Tryz.ntmps154
 go_wp2
 all_goals go_ret
 all_goals refine⟨ret_bool ?_,rfl⟩
 all_goals (rw[Bool.eq_iff_iff,may_iff];simp;omega)
theorem bits_mask (n:Int) (w:World) (h0:1≤n) (h1:n≤32) :
  Calls Tryz.prog 155 #[.int .i64 n] w fun e w'=>e=.returned (.int .u32 (2 ^ n.toNat-1))∧w=w':=by
 have HR:=Lib.hid (mask_val n h0 h1)
 go_enter Tryz.func155,Tryz.ntmps155
 go_wp2
 go_ret
 exact⟨ret_int HR.out,rfl⟩
theorem bits_get (x lo n:Int) (w:World) (hx:0≤x) (hx':x<4294967296) (hl:-9223372036854775808≤lo) (hl':lo≤9223372036854775807) (hn:-9223372036854775808≤n) (hn':n≤9223372036854775807) :
  Calls Tryz.prog 125 #[.int .u32 x,.int .i64 lo,.int .i64 n] w fun e w'=>e=.returned (.int .u32 (Get x lo n))∧∃ k,w'=w.drewN k:=by
 cases hm:may lo n
 ·go_enter Tryz.func125,Tryz.ntmps125
  go_wp2_with (go_at_call 154;refine(bits_inside lo n _ hl hl' hn hn').mono ?_;rintro e w' ⟨rfl,rfl⟩)
  go_ret
  exact⟨ret_int (by simp[Get,hm]),0,rfl⟩
 ·have hi:=(may_iff lo n).1 hm
  have HG:=Lib.hid (get_val x lo n hx hx' hm)
  go_enter Tryz.func125,Tryz.ntmps125
  go_wp2_with (go_at_call 154;refine(bits_inside lo n _ hl hl' hn hn').mono ?_;rintro e w' ⟨rfl,rfl⟩)
  go_quiet ((go_at_call 155;exact quiet_eq (bits_mask _ _ (by omega) (by omega))))
  go_wp2
  go_ret
  exact⟨ret_int HG.out,nq,rfl⟩
theorem bits_put (x lo n v:Int) (w:World) (hx:0≤x) (hx':x<4294967296) (hv:0≤v) (hv':v<4294967296) (hl:-9223372036854775808≤lo) (hl':lo≤9223372036854775807) (hn:-9223372036854775808≤n) (hn':n≤9223372036854775807) :
  Calls Tryz.prog 159 #[.int .u32 x,.int .i64 lo,.int .i64 n,.int .u32 v] w fun e w'=>e=.returned (.int .u32 (Put x lo n v))∧w=w':=by
 cases hm:may lo n
 ·go_enter Tryz.func159,Tryz.ntmps159
  go_wp2_with (go_at_call 154;refine(bits_inside lo n _ hl hl' hn hn').mono ?_;rintro e w' ⟨rfl,rfl⟩)
  go_ret
  exact⟨ret_int (by simp[Put,hm]),rfl⟩
 ·have hi:=(may_iff lo n).1 hm
  go_enter Tryz.func159,Tryz.ntmps159
  go_wp2_with (first | (go_at_call 154;refine(bits_inside lo n _ hl hl' hn hn').mono ?_;rintro e w' ⟨rfl,rfl⟩) | (go_at_call 155;refine(bits_mask _ _ (by omega) (by omega)).mono ?_;rintro e w' ⟨rfl,rfl⟩))
  go_ret
  exact⟨ret_int (put_val x lo n v hx hx' hv hv' hm),rfl⟩
theorem bits_extend (v n:Int) (w:World) (hv:0≤v) (hv':v<4294967296) :
  Calls Tryz.prog 126 #[.int .u32 v,.int .i64 n] w fun e w'=>e=.returned (.int .i64 (Extend v n))∧w=w':=by
 cases hm:few n
 ·have hi:=(few_no n).1 hm
  go_enter Tryz.func126,Tryz.ntmps126
  go_wp2
  all_goals go_ret
  all_goals exact⟨ret_int (by simp[Extend,hm]),rfl⟩
 ·have hi:=(few_iff n).1 hm
  go_enter Tryz.func126,Tryz.ntmps126
  go_wp2
  go_ret
  exact⟨ret_int (extend_val v n hi.1 hi.2),rfl⟩
theorem bits_fits (v n:Int) (w:World) (hv:-9223372036854775808≤v) (hv':v≤9223372036854775807) :
  Calls Tryz.prog 168 #[.int .i64 v,.int .i64 n] w fun e w'=>e=.returned (.bool (Fits v n))∧w=w':=by
 go_enter Tryz.func168,Tryz.ntmps168
 go_wp2
 all_goals go_ret
 all_goals refine⟨ret_bool ?_,rfl⟩
 all_goals (rw[Bool.eq_iff_iff];simp only[Fits,Bool.and_eq_true,decide_eq_true_eq,few_iff])
 ·rw[wrap64_neg_pow _ (by omega)] at *;rw[wrap64_pow _ (by omega)] at *;omega
 ·rw[wrap64_neg_pow _ (by omega)] at *;simp;omega
 ·simp;omega
 ·simp;omega
end Go.Proofs.YtceflhffilldeaaGreat
namespace Go.Proofs.YtceflhffilldeaaGreat
open Go.RowKit Bw
theorem ref01_pow (n:Int) (w:World) (hn:0≤n) (hn':n≤63) :
  Calls Tryz.prog 78 #[.int .u32 n] w fun e w'=>e=.returned (.int .u64 (2 ^ n.toNat))∧w=w':=by
 go_enter Tryz.func78,Tryz.ntmps78
 go_wp2
 go_loop [3,4] (fun p i=>∃ k:Nat,(k:Int)≤n∧i=.int .u32 k∧p=.int .u64 (2 ^ k)) (fun _ i=>n.toNat-(intOf i).toNat)
 case atStart=>exact⟨0,hn,rfl,rfl⟩
 case round=>
  obtain⟨k,hk,rfl,rfl⟩:=hrel
  by_cases hlt:(k:Int)<n
  ·go_wp2
   go_round
   case rel=>exact⟨k+1,by omega,by go_num,by rw[powStep k (by omega)]⟩
   case measure=>simp[intOf];omega
  ·go_wp2
   go_ret
   exact⟨ret_int (by rw[show n.toNat=k by omega]),rfl⟩
theorem ref01_word (n:Int) (w:World) (hn:-9223372036854775808≤n) (hn':n≤9223372036854775807) :
  Calls Tryz.prog 94 #[.int .i64 n] w fun e w'=>e=.returned (.int .u32 (n % 4294967296))∧w=w':=by
 go_enter Tryz.func94,Tryz.ntmps94
 go_wp2
 all_goals go_ret
 ·exact⟨ret_int (word_val n),rfl⟩
 ·exact⟨ret_int (tmod_32 n).1,rfl⟩
theorem ref01_may (lo n:Int) (w:World) (hx:-9223372036854775808≤lo) (hx':lo≤9223372036854775807) (hn:-9223372036854775808≤n) (hn':n≤9223372036854775807) :
  Calls Tryz.prog 77 #[.int .i64 lo,.int .i64 n] w fun e w'=>e=.returned (.bool (may lo n))∧w=w':=by
 go_enter Tryz.func77,Tryz.ntmps77
 go_wp2
 all_goals go_ret
 all_goals refine⟨ret_bool ?_,rfl⟩
 all_goals (rw[Bool.eq_iff_iff,may_iff];simp;omega)
theorem ref01_get (x lo n:Int) (w:World) (hx:0≤x) (hx':x<4294967296) (hl:-9223372036854775808≤lo) (hl':lo≤9223372036854775807) (hn:-9223372036854775808≤n) (hn':n≤9223372036854775807) :
  Calls Tryz.prog 56 #[.int .u32 x,.int .i64 lo,.int .i64 n] w fun e w'=>e=.returned (.int .u32 (Get x lo n))∧∃ k,w'=w.drewN k:=by
 cases hm:may lo n
 ·go_enter Tryz.func56,Tryz.ntmps56
  go_wp2_with (go_at_call 77;refine(ref01_may lo n _ hl hl' hn hn').mono ?_;rintro e w' ⟨rfl,rfl⟩)
  go_ret
  exact⟨ret_int (by simp[Get,hm]),0,rfl⟩
 ·have hi:=(may_iff lo n).1 hm
  have e1:lo % 4294967296=lo:=by omega
  have e2:n % 4294967296=n:=by omega
  have p1:=pow_pos lo.toNat
  have p2:=pow_pos n.toNat
  have HG:=Lib.hid (refGet_val' x lo n hx hx' hm)
  go_enter Tryz.func56,Tryz.ntmps56
  go_wp2_with (go_at_call 77;refine(ref01_may lo n _ hl hl' hn hn').mono ?_;rintro e w' ⟨rfl,rfl⟩)
  go_quiet ((go_at_call 78;exact quiet_eq (ref01_pow _ _ (by omega) (by omega))))
  go_wp2
  go_ret
  exact⟨ret_int HG.out,nq,rfl⟩
theorem ref01_put (x lo n v:Int) (w:World) (hx:0≤x) (hx':x<4294967296) (hv:0≤v) (hv':v<4294967296) (hl:-9223372036854775808≤lo) (hl':lo≤9223372036854775807) (hn:-9223372036854775808≤n) (hn':n≤9223372036854775807) :
  Calls Tryz.prog 92 #[.int .u32 x,.int .i64 lo,.int .i64 n,.int .u32 v] w fun e w'=>e=.returned (.int .u32 (Put x lo n v))∧∃ k,w'=w.drewN k:=by
 cases hm:may lo n
 ·go_enter Tryz.func92,Tryz.ntmps92
  go_wp2_with (go_at_call 77;refine(ref01_may lo n _ hl hl' hn hn').mono ?_;rintro e w' ⟨rfl,rfl⟩)
  go_ret
  exact⟨ret_int (by simp[Put,hm]),0,rfl⟩
 ·have hi:=(may_iff lo n).1 hm
  have e1:lo % 4294967296=lo:=by omega
  have e2:n % 4294967296=n:=by omega
  have p1:=pow_pos lo.toNat
  have p2:=pow_pos n.toNat
  have hg:=get_bd x lo n hx hx'
  go_enter Tryz.func92,Tryz.ntmps92
  go_wp2_with fail
  refine(ref01_may lo n _ hl hl' hn hn').mono ?_
  rintro e w' ⟨rfl,rfl⟩
  go_wp2_with fail
  refine(ref01_get x lo n _ hx hx' hl hl' hn hn').mono ?_
  rintro e w' ⟨rfl,k,rfl⟩
  go_wp2_with fail
  refine(ref01_pow _ _ (by omega) (by omega)).mono ?_
  rintro e w' ⟨rfl,rfl⟩
  go_wp2_with fail
  go_quiet ((go_at_call 78;exact quiet_add_eq (ref01_pow _ _ (by omega) (by omega))))
  go_wp2
  go_ret
  exact⟨ret_int (refPut_val x lo n v hx hx' hv hm),k+nq,by rw[World.drewN_drewN]⟩
theorem ref01_fits (v n:Int) (w:World) (hv:-9223372036854775808≤v) (hv':v≤9223372036854775807) :
  Calls Tryz.prog 57 #[.int .i64 v,.int .i64 n] w fun e w'=>e=.returned (.bool (Fits v n))∧w=w':=by
 cases hm:few n
 ·have hi:=(few_no n).1 hm
  go_enter Tryz.func57,Tryz.ntmps57
  go_wp2
  all_goals go_ret
  all_goals exact⟨ret_bool (by simp[Fits,hm]),rfl⟩
 ·obtain⟨hi1,hi2⟩:=(few_iff n).1 hm
  have e2:n % 4294967296=n:=by omega
  have p2:=pow_pos n.toNat
  have p3:(2:Int) ^ n.toNat≤2 ^ 32:=pow_mono (by omega)
  go_enter Tryz.func57,Tryz.ntmps57
  go_wp2_with (go_at_call 78;refine(ref01_pow _ _ (by omega) (by omega)).mono ?_;rintro e w' ⟨rfl,rfl⟩)
  all_goals go_ret
  all_goals refine⟨ret_bool ?_,rfl⟩
  all_goals (rw[fits_eq v n hm])
  ·have h:-(2 ^ n.toNat / 2)≤v:=by assumption
   simp[h]
  ·have h:v < -(2 ^ n.toNat / 2):=by assumption
   simp;omega
end Go.Proofs.YtceflhffilldeaaGreat
