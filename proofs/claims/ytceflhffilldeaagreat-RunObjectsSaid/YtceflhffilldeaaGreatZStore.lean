/-
  Joined: ZStore.
-/
import Derived.Test.YtceflhffilldeaaGreatProg
import Derived.WalkKit
import Derived.Lib.Hide
import Derived.Maps.Own
import Derived.Maps.Views
import Derived.WideKeyArr2
import Derived.DeepKeys4
import Derived.Test.YtceflhffilldeaaGreatZKept
import Derived.Laws.CopyRow
import Derived.Lib.SlBuf
import Derived.Maps.OwnSet
import Derived.Laws.CopyOwn
import Derived.Maps.StringElems
import Derived.Maps.Ext
import Derived.WalkSpells
import Derived.Maps.RangeWalk
import Derived.Lib.SlBytesRow
import Derived.Sort.Grow
import Derived.Lib.OwnBridge
import Derived.Deep.AppendLies
import Derived.Deep.MidRow
set_option linter.unusedVariables false
set_option linter.unusedSimpArgs false
set_option maxRecDepth 100000
set_option maxHeartbeats 16000000
namespace Go.Proofs.YtceflhffilldeaaGreat
open Go.RowKit
def letterB (c:Int):Bool:=decide (97≤c) && decide (c≤122) || decide (65≤c) && decide (c≤90)
def inName (c:Int):Bool:=letterB c || decide (48≤c) && decide (c≤57) || c==46
theorem store_letter (c:Int) (w:World):Calls Tryz.prog 90 #[.int .u8 c] w fun e w'=>e=.returned (.bool (letterB c))∧w=w':=by
 unfold letterB
 go_enter Tryz.func90,Tryz.ntmps90
 by_cases h1:97≤c<;>by_cases h2:c≤122<;>by_cases h3:65≤c<;>by_cases h4:c≤90<;>(go_wp2_with fail;go_ret;try (simp[h1,h2,h3,h4]))
theorem ref07_letter (c:Int) (w:World):Calls Tryz.prog 64 #[.int .u8 c] w fun e w'=>e=.returned (.bool (letterB c))∧w=w':=by
 unfold letterB
 go_enter Tryz.func64,Tryz.ntmps64
 by_cases h1:97≤c<;>by_cases h2:c≤122<;>by_cases h3:65≤c<;>by_cases h4:c≤90<;>(go_wp2_with fail;go_ret;try (simp[h1,h2,h3,h4]))
theorem sn_ret_bool {a b:Bool} (h:a=b):Ending.returned (Value.bool a)=Ending.returned (Value.bool b):=by rw[h]
def at_ (s:ByteArray) (i:Nat):Int:=if h:i<s.size then ((s[i]'h).toNat:Int) else 0
theorem at_lt (s:ByteArray) (i:Nat) (h:i<s.size):at_ s i=((s[i]'h).toNat:Int):=by rw[at_,dif_pos h]
def nameOk (s:ByteArray):Bool:=decide (1≤s.size) && decide (s.size≤24) && letterB (at_ s 0) && decide (∀ i,i<s.size→inName (at_ s i)=true)
theorem nameOk_iff (s:ByteArray):nameOk s=true↔(1≤s.size∧s.size≤24∧letterB (at_ s 0)=true∧∀ i,i<s.size→inName (at_ s i)=true):=by
 simp[nameOk,and_assoc]
theorem nameOk_not (s:ByteArray) (h:¬ (1≤s.size∧s.size≤24∧letterB (at_ s 0)=true∧∀ i,i<s.size→inName (at_ s i)=true)):false=nameOk s:=by
 have:=(not_congr (nameOk_iff s)).2 h
 cases e:nameOk s
 ·rfl
 ·exact absurd e this
theorem nameOk_yes (s:ByteArray) (h:(1≤s.size∧s.size≤24∧letterB (at_ s 0)=true∧∀ i,i<s.size→inName (at_ s i)=true)):true=nameOk s:=((nameOk_iff s).2 h).symm
theorem store_name (s:ByteArray) (w:World) (hs:s.size≤9223372036854775807):Calls Tryz.prog 60 #[.string s] w fun e w'=>e=.returned (.bool (nameOk s))∧w=w':=by
 by_cases h0:s.size=0
 ·go_enter Tryz.func60,Tryz.ntmps60
  go_wp2_with fail
  go_ret
  exact⟨sn_ret_bool (nameOk_not s (fun h=>by omega)),rfl⟩
 by_cases h1:24<s.size
 ·go_enter Tryz.func60,Tryz.ntmps60
  go_wp2_with fail
  go_ret
  exact⟨sn_ret_bool (nameOk_not s (fun h=>by omega)),rfl⟩
 have h2:0<s.size:=by omega
 have h3:s.size≤24:=by omega
 have e0:=zh (at_lt s 0 h2)
 have b1:((s.size:Int)==0)=false:=by rw[beq_eq_false_iff_ne];omega
 have b2:decide ((24:Int)<(s.size:Int))=false:=by rw[decide_eq_false_iff_not];omega
 by_cases hl:letterB ↑s[0].toNat=true
 ·go_enter Tryz.func60,Tryz.ntmps60
  go_wp2_with (go_at_call 90;refine(store_letter _ _).mono ?_;rintro e w' ⟨rfl,rfl⟩)
  go_loop [21] (fun i=>∃ k:Nat,i=.int .i64 k∧k≤s.size∧∀ j,j<k→inName (at_ s j)=true) (fun i=>s.size-(intOf i).toNat)
  case atStart=>exact⟨0,rfl,by omega,fun j hj=>by omega⟩
  case round=>
   obtain⟨k,rfl,hk,hj⟩:=hrel
   have HJ:=zh hj
   clear hj
   by_cases hlt:k<s.size
   ·have ek:=zh (at_lt s k hlt)
    by_cases hl2:letterB ↑(s[k]'hlt).toNat=true
    ·have IN:Hid (inName ↑(s[k]'hlt).toNat=true):=zh (by simp[inName,hl2])
     go_wp2_with (go_at_call 90;refine(store_letter _ _).mono ?_;rintro e w' ⟨rfl,rfl⟩)
     go_round
     case rel=>exact⟨k+1,by go_num,by omega,fun j hj=>by
      rcases Nat.lt_or_ge j k with h | h
      ·exact HJ.out j h
      ·rw[show j=k by omega,ek.out];exact IN.out⟩
     case measure=>simp[intOf];omega
    have hl3:letterB ↑(s[k]'hlt).toNat=false:=by simpa using hl2
    clear hl2
    have hc:((↑(s[k]'hlt).toNat:Int)<48∧(↑(s[k]'hlt).toNat:Int)≠46)∨(↑(s[k]'hlt).toNat:Int)=46∨(48≤(↑(s[k]'hlt).toNat:Int)∧(↑(s[k]'hlt).toNat:Int)≤57)∨57<(↑(s[k]'hlt).toNat:Int):=by omega
    rcases hc with ⟨c1,c2⟩ | c1 | ⟨c1,c2⟩ | c1
    ·have c3:((↑(s[k]'hlt).toNat:Int) != 46)=true:=by simpa using c2
     have IN:Hid (inName ↑(s[k]'hlt).toNat=false):=zh (by simp only[inName,hl3,Bool.false_or,Bool.or_eq_false_iff,Bool.and_eq_false_iff,decide_eq_false_iff_not,beq_eq_false_iff_ne];exact⟨by omega,c2⟩)
     go_wp2_with (go_at_call 90;refine(store_letter _ _).mono ?_;rintro e w' ⟨rfl,rfl⟩)
     go_ret
     exact⟨sn_ret_bool (nameOk_not s (fun h=>by have h1:=h.2.2.2 k hlt;rw[ek.out] at h1;have h2:=IN.out;rw[h1] at h2;cases h2)),rfl⟩
    ·have IN:Hid (inName ↑(s[k]'hlt).toNat=true):=zh (by simp[inName,c1])
     go_wp2_with (go_at_call 90;refine(store_letter _ _).mono ?_;rintro e w' ⟨rfl,rfl⟩)
     go_round
     case rel=>exact⟨k+1,by go_num,by omega,fun j hj=>by
      rcases Nat.lt_or_ge j k with h | h
      ·exact HJ.out j h
      ·rw[show j=k by omega,ek.out];exact IN.out⟩
     case measure=>simp[intOf];omega
    ·have IN:Hid (inName ↑(s[k]'hlt).toNat=true):=zh (by simp only[inName,Bool.or_eq_true,Bool.and_eq_true,decide_eq_true_eq];omega)
     go_wp2_with (go_at_call 90;refine(store_letter _ _).mono ?_;rintro e w' ⟨rfl,rfl⟩)
     go_round
     case rel=>exact⟨k+1,by go_num,by omega,fun j hj=>by
      rcases Nat.lt_or_ge j k with h | h
      ·exact HJ.out j h
      ·rw[show j=k by omega,ek.out];exact IN.out⟩
     case measure=>simp[intOf];omega
    ·have c3:((↑(s[k]'hlt).toNat:Int) != 46)=true:=by simp only[bne_iff_ne];omega
     have IN:Hid (inName ↑(s[k]'hlt).toNat=false):=zh (by simp only[inName,hl3,Bool.false_or,Bool.or_eq_false_iff,Bool.and_eq_false_iff,decide_eq_false_iff_not,beq_eq_false_iff_ne];omega)
     go_wp2_with (go_at_call 90;refine(store_letter _ _).mono ?_;rintro e w' ⟨rfl,rfl⟩)
     go_ret
     exact⟨sn_ret_bool (nameOk_not s (fun h=>by have h1:=h.2.2.2 k hlt;rw[ek.out] at h1;have h2:=IN.out;rw[h1] at h2;cases h2)),rfl⟩
   ·go_wp2_with fail
    go_ret
    exact⟨sn_ret_bool (nameOk_yes s ⟨by omega,by omega,by rw[e0.out];exact hl,fun i hi=>HJ.out i (by omega)⟩),rfl⟩
 ·go_enter Tryz.func60,Tryz.ntmps60
  go_wp2_with (go_at_call 90;refine(store_letter _ _).mono ?_;rintro e w' ⟨rfl,rfl⟩)
  go_ret
  exact⟨sn_ret_bool (nameOk_not s (fun h=>hl (by rw[← e0.out];exact h.2.2.1))),rfl⟩
theorem ref07_name (s:ByteArray) (w:World) (hs:s.size≤9223372036854775807):Calls Tryz.prog 44 #[.string s] w fun e w'=>e=.returned (.bool (nameOk s))∧w=w':=by
 by_cases h0:s.size=0
 ·go_enter Tryz.func44,Tryz.ntmps44
  go_wp2_with fail
  go_ret
  exact⟨sn_ret_bool (nameOk_not s (fun h=>by omega)),rfl⟩
 by_cases h1:24<s.size
 ·go_enter Tryz.func44,Tryz.ntmps44
  go_wp2_with fail
  go_ret
  exact⟨sn_ret_bool (nameOk_not s (fun h=>by omega)),rfl⟩
 have h2:0<s.size:=by omega
 have h3:s.size≤24:=by omega
 have e0:=zh (at_lt s 0 h2)
 have b1:decide ((s.size:Int)<1)=false:=by rw[decide_eq_false_iff_not];omega
 have b2:decide ((24:Int)<(s.size:Int))=false:=by rw[decide_eq_false_iff_not];omega
 by_cases hl:letterB ↑s[0].toNat=true
 ·go_enter Tryz.func44,Tryz.ntmps44
  go_wp2_with (go_at_call 64;refine(ref07_letter _ _).mono ?_;rintro e w' ⟨rfl,rfl⟩)
  go_loop [3] (fun i=>∃ k:Nat,i=.int .i64 k∧k≤s.size∧∀ j,j<k→inName (at_ s j)=true) (fun i=>s.size-(intOf i).toNat)
  case atStart=>exact⟨0,rfl,by omega,fun j hj=>by omega⟩
  case round=>
   obtain⟨k,rfl,hk,hj⟩:=hrel
   have HJ:=zh hj
   clear hj
   by_cases hlt:k<s.size
   ·have ek:=zh (at_lt s k hlt)
    by_cases hl2:letterB ↑(s[k]'hlt).toNat=true
    ·have IN:Hid (inName ↑(s[k]'hlt).toNat=true):=zh (by simp[inName,hl2])
     go_wp2_with (go_at_call 64;refine(ref07_letter _ _).mono ?_;rintro e w' ⟨rfl,rfl⟩)
     go_round
     case rel=>exact⟨k+1,by go_num,by omega,fun j hj=>by
      rcases Nat.lt_or_ge j k with h | h
      ·exact HJ.out j h
      ·rw[show j=k by omega,ek.out];exact IN.out⟩
     case measure=>simp[intOf];omega
    have hl3:letterB ↑(s[k]'hlt).toNat=false:=by simpa using hl2
    clear hl2
    have hc:((↑(s[k]'hlt).toNat:Int)<48∧(↑(s[k]'hlt).toNat:Int)≠46)∨(↑(s[k]'hlt).toNat:Int)=46∨(48≤(↑(s[k]'hlt).toNat:Int)∧(↑(s[k]'hlt).toNat:Int)≤57)∨57<(↑(s[k]'hlt).toNat:Int):=by omega
    rcases hc with ⟨c1,c2⟩ | c1 | ⟨c1,c2⟩ | c1
    ·have c3:((↑(s[k]'hlt).toNat:Int) != 46)=true:=by simpa using c2
     have IN:Hid (inName ↑(s[k]'hlt).toNat=false):=zh (by simp only[inName,hl3,Bool.false_or,Bool.or_eq_false_iff,Bool.and_eq_false_iff,decide_eq_false_iff_not,beq_eq_false_iff_ne];exact⟨by omega,c2⟩)
     go_wp2_with (go_at_call 64;refine(ref07_letter _ _).mono ?_;rintro e w' ⟨rfl,rfl⟩)
     go_ret
     exact⟨sn_ret_bool (nameOk_not s (fun h=>by have h1:=h.2.2.2 k hlt;rw[ek.out] at h1;have h2:=IN.out;rw[h1] at h2;cases h2)),rfl⟩
    ·have IN:Hid (inName ↑(s[k]'hlt).toNat=true):=zh (by simp[inName,c1])
     go_wp2_with (go_at_call 64;refine(ref07_letter _ _).mono ?_;rintro e w' ⟨rfl,rfl⟩)
     go_round
     case rel=>exact⟨k+1,by go_num,by omega,fun j hj=>by
      rcases Nat.lt_or_ge j k with h | h
      ·exact HJ.out j h
      ·rw[show j=k by omega,ek.out];exact IN.out⟩
     case measure=>simp[intOf];omega
    ·have IN:Hid (inName ↑(s[k]'hlt).toNat=true):=zh (by simp only[inName,Bool.or_eq_true,Bool.and_eq_true,decide_eq_true_eq];omega)
     go_wp2_with (go_at_call 64;refine(ref07_letter _ _).mono ?_;rintro e w' ⟨rfl,rfl⟩)
     go_round
     case rel=>exact⟨k+1,by go_num,by omega,fun j hj=>by
      rcases Nat.lt_or_ge j k with h | h
      ·exact HJ.out j h
      ·rw[show j=k by omega,ek.out];exact IN.out⟩
     case measure=>simp[intOf];omega
    ·have c3:((↑(s[k]'hlt).toNat:Int) != 46)=true:=by simp only[bne_iff_ne];omega
     have IN:Hid (inName ↑(s[k]'hlt).toNat=false):=zh (by simp only[inName,hl3,Bool.false_or,Bool.or_eq_false_iff,Bool.and_eq_false_iff,decide_eq_false_iff_not,beq_eq_false_iff_ne];omega)
     go_wp2_with (go_at_call 64;refine(ref07_letter _ _).mono ?_;rintro e w' ⟨rfl,rfl⟩)
     go_ret
     exact⟨sn_ret_bool (nameOk_not s (fun h=>by have h1:=h.2.2.2 k hlt;rw[ek.out] at h1;have h2:=IN.out;rw[h1] at h2;cases h2)),rfl⟩
   ·go_wp2_with fail
    go_ret
    exact⟨sn_ret_bool (nameOk_yes s ⟨by omega,by omega,by rw[e0.out];exact hl,fun i hi=>HJ.out i (by omega)⟩),rfl⟩
 ·go_enter Tryz.func44,Tryz.ntmps44
  go_wp2_with (go_at_call 64;refine(ref07_letter _ _).mono ?_;rintro e w' ⟨rfl,rfl⟩)
  go_ret
  exact⟨sn_ret_bool (nameOk_not s (fun h=>hl (by rw[← e0.out];exact h.2.2.1))),rfl⟩
end Go.Proofs.YtceflhffilldeaaGreat
namespace Go.Proofs.YtceflhffilldeaaGreat
open Go.RowKit Go.Maps Go.WideMaps
def akey (q:IntKind) (xs:List Int):Lit:=.string (keyBytes (xs.map (Lit.int q)))
theorem mapM_keyLits {P:Program} {e:TypeId} {q:IntKind} (he:P.underlying e=some (.int q)) (h1:P.cellsOf e=1) (D:Nat) (xs:List Int) (hw:∀ x∈xs,(Lit.int q x).wf=true) :
  ∀ (L:List Nat),(∀ i∈L,i<xs.length)→L.mapM (fun i=>P.keyLits (D+1) e (((xs.map (Value.int q)).drop (i*P.cellsOf e)).take (P.cellsOf e)))=some (L.map fun i=>[Lit.int q (xs.getD i 0)])
 | [],_=>rfl
 | i::L,h=>by
  rw[List.mapM_cons,mapM_keyLits he h1 D xs hw L (fun j hj=>h j (by simp[hj]))]
  have hi:=h i (by simp)
  have e1:((xs.map (Value.int q)).drop (i*P.cellsOf e)).take (P.cellsOf e)=[Value.int q xs[i]]:=by
   rw[h1,Nat.mul_one,List.drop_eq_getElem_cons (by simpa using hi)]
   simp
  rw[e1]
  have hx:(Lit.int q xs[i]).wf=true:=hw _ (List.getElem_mem hi)
  simp[Program.keyLits,he,hx,List.getD,hi]
theorem keyOf_arr {P:Program} {k e:TypeId} {n:Nat} {q:IntKind} (A:ArrKey P k e n) (he:P.underlying e=some (.int q)) (hsz:∃ m,P.types.size=m+1) (xs:List Int) (hn:xs.length=n) (hw:∀ x∈xs,(Lit.int q x).wf=true) :
  keyOf P k (.agg (xs.map (Value.int q)).toArray)=some (akey q xs):=by
 have hkt:=A.keyType hsz
 obtain⟨m0,hm0⟩:=hsz
 unfold keyOf
 simp only[A.hu]
 rw[if_pos (by simp[hkt,Value.formed,A.hu,A.size,hn]),hm0]
 unfold Program.keyLits
 simp only[A.hu,Value.cells]
 rw[if_pos (by rw[A.size];simpa using hn)]
 have h:=mapM_keyLits he A.one m0 xs hw (List.range n) (by intro i hi;rw[hn];simpa using hi)
 try simp only[List.toList_toArray] at *
 rw[h]
 have hfl:∀ l:List Nat,(l.map fun i=>[Lit.int q (xs.getD i 0)]).flatten=l.map fun i=>Lit.int q (xs.getD i 0):=fun l=>by induction l with | nil=>rfl | cons a r ih=>rw[List.map_cons,List.flatten_cons,ih];rfl
 simp only[Option.map_some,hfl,akey]
 congr 3
 apply List.ext_getElem
 ·simp[hn]
 ·intro i h1 h2
  have:i<xs.length:=by simpa using h2
  simp[List.getD,this]
theorem akey_inj {P:Program} {k e:TypeId} {n:Nat} {q:IntKind} (A:ArrKey P k e n) (he:P.underlying e=some (.int q)) (hsz:∃ m,P.types.size=m+1) {xs ys:List Int} (hn:xs.length=n) (hw:∀ x∈xs,(Lit.int q x).wf=true)
  (hn':ys.length=n) (hw':∀ x∈ys,(Lit.int q x).wf=true) (h:akey q xs=akey q ys):xs=ys:=by
 have h1:=keyOf_arr A he hsz xs hn hw
 have h2:=keyOf_arr A he hsz ys hn' hw'
 rw[h] at h1
 have h3:=A.law.inj h1 h2
 injection h3 with h3
 have h4:xs.map (Value.int q)=ys.map (Value.int q):=by simpa using congrArg Array.toList h3
 exact(List.map_inj_right (fun a b hab=>by injection hab)).1 h4
end Go.Proofs.YtceflhffilldeaaGreat
namespace Go.Proofs.YtceflhffilldeaaGreat
open Go.RowKit Go.Maps Go.WideMaps
theorem sArr:ArrKey Tryz.prog 103 5 24:=⟨Tryz.underlying103,by kernel_rfl,by kernel_rfl,by kernel_rfl⟩
theorem sSize:∃ m,Tryz.prog.types.size=m+1:=⟨Tryz.prog.types.size-1,by kernel_rfl⟩
theorem sKeyed:Keyed Tryz.prog 103:=Keyed.of_law sArr.law
theorem at_bd (s:ByteArray) (i:Nat):0≤at_ s i∧at_ s i<256:=by
 unfold at_
 split
 ·have:=(s[i]).toNat_lt;omega
 ·omega
def keyInts (s:ByteArray):List Int:=(List.range 24).map (at_ s)
def keyCells (s:ByteArray):Array Value:=#[.int .u8 (at_ s 0),.int .u8 (at_ s 1),.int .u8 (at_ s 2),.int .u8 (at_ s 3),.int .u8 (at_ s 4),.int .u8 (at_ s 5),.int .u8 (at_ s 6),.int .u8 (at_ s 7),.int .u8 (at_ s 8),.int .u8 (at_ s 9),.int .u8 (at_ s 10),.int .u8 (at_ s 11),.int .u8 (at_ s 12),.int .u8 (at_ s 13),.int .u8 (at_ s 14),.int .u8 (at_ s 15),.int .u8 (at_ s 16),.int .u8 (at_ s 17),.int .u8 (at_ s 18),.int .u8 (at_ s 19),.int .u8 (at_ s 20),.int .u8 (at_ s 21),.int .u8 (at_ s 22),.int .u8 (at_ s 23)]
def zeros24:Array Value:=#[.int .u8 0,.int .u8 0,.int .u8 0,.int .u8 0,.int .u8 0,.int .u8 0,.int .u8 0,.int .u8 0,.int .u8 0,.int .u8 0,.int .u8 0,.int .u8 0,.int .u8 0,.int .u8 0,.int .u8 0,.int .u8 0,.int .u8 0,.int .u8 0,.int .u8 0,.int .u8 0,.int .u8 0,.int .u8 0,.int .u8 0,.int .u8 0]
def fkey (s:ByteArray):Lit:=akey .u8 (keyInts s)
theorem keyCells_eq (s:ByteArray):keyCells s=((keyInts s).map (Value.int .u8)).toArray:=rfl
theorem keyInts_wf (s:ByteArray):∀ x∈keyInts s,(Lit.int .u8 x).wf=true:=by
 intro x hx
 simp only[keyInts,List.mem_map] at hx
 obtain⟨i,_,rfl⟩:=hx
 have:=at_bd s i
 simp[Lit.wf,IntKind.min,IntKind.max,IntKind.bits,IntKind.signed]
 omega
theorem keyOf_name (s:ByteArray):keyOf Tryz.prog 103 (.agg (keyCells s))=some (fkey s):=by
 rw[keyCells_eq]
 exact keyOf_arr sArr Tryz.underlying5 sSize (keyInts s) (by simp[keyInts]) (keyInts_wf s)
theorem inName_zero:inName 0=false:=by decide
theorem fkey_inj (a b:ByteArray) (ha:nameOk a=true) (hb:nameOk b=true) (h:fkey a=fkey b):a=b:=by
 have h1:=akey_inj sArr Tryz.underlying5 sSize (by simp[keyInts]) (keyInts_wf a) (by simp[keyInts]) (keyInts_wf b) h
 have h2:∀ i,i<24→at_ a i=at_ b i:=fun i hi=>by
  have:=congrArg (fun l=>l.getD i 0) h1
  simpa [keyInts,List.getD,hi] using this
 obtain⟨a1,a2,_,a4⟩:=(nameOk_iff a).1 ha
 obtain⟨b1,b2,_,b4⟩:=(nameOk_iff b).1 hb
 have out:∀ (s:ByteArray) i,s.size≤i→at_ s i=0:=fun s i hi=>by rw[at_,dif_neg (by omega)]
 have hs:a.size=b.size:=by
  rcases Nat.lt_trichotomy a.size b.size with h | h | h
  ·have h3:=b4 a.size h
   rw[← h2 _ (by omega),out a _ (Nat.le_refl _),inName_zero] at h3;cases h3
  ·exact h
  ·have h3:=a4 b.size h
   rw[h2 _ (by omega),out b _ (Nat.le_refl _),inName_zero] at h3;cases h3
 apply ByteArray.ext
 apply Array.ext
 ·exact hs
 ·intro i hi hi'
  have h4:=h2 i (by have:i<a.size:=hi;omega)
  rw[at_lt a i hi,at_lt b i hi'] at h4
  have h5:(a[i]'hi).toNat=(b[i]'hi').toNat:=by omega
  exact UInt8.toNat_inj.1 h5
theorem setRow_last (w:World) (t:TypeId) (cs cs':Array Value):(w.alloc (.cells cs t)).setRow w.heap.size cs'=w.alloc (.cells cs' t):=by
 unfold World.setRow World.alloc
 congr 1
 apply Array.ext_getElem?
 intro i
 rw[Array.getElem?_modify]
 by_cases h:w.heap.size=i
 ·subst h;simp
 ·rw[if_neg h]
  simp only[Array.getElem?_push]
  rw[if_neg (fun e=>h e.symm),if_neg (fun e=>h e.symm)]
theorem run_copy_key (w:World) (s:ByteArray) (t ty:TypeId) (hs:s.size≤9223372036854775807):(Builtin.copy_ #[86,9] ty #[.slice (some ⟨w.heap.size,0,none⟩) 24 24,.string s]).run Tryz.prog (w.alloc (.cells zeros24 t)) =
  .ok (goInt (Nat.min s.size 24)) (w.alloc (.cells (keyCells s) t)):=by
 have hl:(((s.data.toList.map fun b=>Value.int .u8 (b.toNat:Int)).take (Nat.min s.size 24))).length=Nat.min s.size 24:=by
  rw[List.length_take,List.length_map]
  have:s.data.toList.length=s.size:=rfl
  rw[this];exact Nat.min_eq_left (Nat.min_le_left _ _)
 have hst:=run_storeCells_at Tryz.prog w.heap.size 0 t ((s.data.toList.map fun b=>Value.int .u8 (b.toNat:Int)).take (Nat.min s.size 24)) 0 zeros24 (w.alloc (.cells zeros24 t)) (heap_alloc_new w _)
  (by rw[hl];simp only[zeros24,List.size_toArray,List.length_cons,List.length_nil];exact Nat.le_trans (by simpa using Nat.min_le_right s.size 24) (Nat.le_refl 24)) (by intro v hv;have:=List.mem_of_mem_take hv;simp at this;obtain⟨b,_,rfl⟩:=this;rfl)
 rw[setRow_last] at hst
 have e:(zeros24.toList.take (0+0)++(s.data.toList.map fun b=>Value.int .u8 (b.toNat:Int)).take (Nat.min s.size 24)++zeros24.toList.drop (0+0+((s.data.toList.map fun b=>Value.int .u8 (b.toNat:Int)).take (Nat.min s.size 24)).length)).toArray=keyCells s:=by
  rw[hl,keyCells_eq]
  congr 1
  apply List.ext_getElem?
  intro i
  have hm:s.data.toList.length=s.size:=rfl
  have hk:((keyInts s).map (Value.int .u8))[i]?=if i<24 then some (Value.int .u8 (at_ s i)) else none:=by
   rw[List.getElem?_map,keyInts,List.getElem?_map]
   by_cases hi:i<24
   ·rw[if_pos hi];simp[List.getElem?_range,hi]
   ·rw[if_neg hi];simp[hi]
  have hz:∀ j,zeros24.toList[j]?=if j<24 then some (Value.int .u8 0) else none:=by
   intro j
   have:zeros24.toList=List.replicate 24 (Value.int .u8 0):=rfl
   rw[this,List.getElem?_replicate]
  rw[hk]
  simp only[Nat.add_zero,List.take_zero,List.nil_append,Nat.zero_add]
  rw[List.getElem?_append,hl,List.getElem?_take,List.getElem?_map,List.getElem?_drop,hz]
  have hmn:Nat.min s.size 24=s.size∧s.size≤24∨Nat.min s.size 24=24∧24<s.size:=by
   rcases Nat.lt_or_ge 24 s.size with h | h
   ·exact Or.inr ⟨Nat.min_eq_right (by omega),h⟩
   ·exact Or.inl ⟨Nat.min_eq_left h,h⟩
  by_cases hi:i<Nat.min s.size 24
  ·have h1:i<s.size:=by omega
   have h2:i<24:=by omega
   rw[if_pos hi,if_pos hi,if_pos h2,at_lt s i h1,List.getElem?_eq_getElem (by rw[hm];exact h1)]
   rfl
  ·rw[if_neg hi]
   by_cases h2:i<24
   ·rw[if_pos h2,if_pos (by omega),at_,dif_neg (by omega)]
   ·rw[if_neg h2,if_neg (by omega)]
 rw[e] at hst
 have hmin:(Nat.min s.size 24)=Nat.min s.size 24:=rfl
 obtain⟨i0,hi0,hsz⟩:∃ i,Tryz.prog.info? 5=some i∧i.size=1:=by
  have h:(Tryz.prog.info? 5).map (fun i=>i.size)=some 1:=by kernel_rfl
  cases hq:Tryz.prog.info? 5 with
  | none=>rw[hq] at h;cases h
  | some i=>rw[hq] at h;exact⟨i,rfl,by simpa using h⟩
 simp[Builtin.copy_,run_underlying Tryz.underlying86,Builtin.lenOf,Builtin.firstCells,sizeOf,typeInfo,hi0,hsz]
 rw[hst]
 simp[Result.andThen]
theorem region_still_drew {P:Program} {id:Nat} {Q:Exit→Act→World→Prop} {a:Act} {w:World} {l:List Oper} (n:Nat) (hm:P.follows .mixedOrders=true) (hB:Region.lexTailB .any l.toArray n=true)
  (h:wpStill P l.toArray w.drew (fun a'=>wpList P l.toArray Q (l.drop n) a' w.drew) (l.take n) a):(Code.region id l.toArray true).wp P Q a w:=wp_region_still_tail n hm hB h
theorem wpStill_load_row {P:Program} {ops:Array Oper} {rest:List Oper} {o:Oper} {a:Act} {w:World} {Q:Act→Prop} (hgd:o.guard=none) (ty:TypeId) (x:Operand) (ho:o.op=.load ty x)
  (g:Nat) (hx:a.eval x=.pointer (some ⟨g,0,none⟩)) (t:TypeId) (cs:Array Value) (fr:Nat×Nat) (d:TypeDesc) (hg:w.heap[g]?=some (.cells cs t fr))
  (hu:P.underlying ty=some d) (hd:(match d with | .struct _ | .array _ _=>true | _=>false)=true) (hi:(P.info? ty).map (·.size)=some cs.size)
  (h:wpStill P ops w Q rest (a.put o.dst (.agg cs))):wpStill P ops w Q (o::rest) a:=by
 refine wpStill_step fun K hK=>?_
 rw[if_pos (by simp[Region.wanted,hgd])]
 unfold Oper.still execOp
 simp only[ho,hx,Instr.loadAt,Instr.sureAddr,Sem.run_bind,Sem.run_pure,Result.andThen_ok,run_loadVar_row w g t ty cs fr d hg hu hd hi]
 rw[Oper.stillUpon_value]
 exact hK _ h
theorem key_size (s:ByteArray):(Tryz.prog.info? 103).map (·.size)=some (keyCells s).size:=by
 have h:(Tryz.prog.info? 103).map (·.size)=some 24:=by kernel_rfl
 rw[h];rfl
theorem key_one (s:ByteArray):(keyCells s).all (·.oneCell')=true:=by simp[keyCells,Value.oneCell']
theorem store_of (s:ByteArray) (w:World) (hs:s.size≤9223372036854775807) :
  Calls Tryz.prog 38 #[.string s] w fun e w'=>e=.returned (.tuple #[.agg (keyCells s),.bool (nameOk s)])∧Below w.heap.size w w':=by
 have HC:=run_copy_key (w.alloc (.cells zeros24 103)) s 103 3 hs
 have HN:=fun W=>zh (store_name s W hs)
 simp only[zeros24,World.size_alloc] at HC
 have k1:=zh (key_size s)
 have k2:=zh (key_one s)
 have k3:Hid (24=(keyCells s).size):=rfl
 generalize keyCells s=K at *
 go_enter Tryz.func38,Tryz.ntmps38
 go_wp2_with fail
 refine region_still_drew 3 (by kernel_rfl) (by kernel_rfl) ?_
 simp only[List.take_succ_cons,List.take_zero,List.drop_succ_cons,List.drop_zero]
 refine wpStill_load_row rfl 103 (.tmp 4) rfl (w.heap.size+1) rfl 103 K (0,0) _ (heap_alloc2_new w _ _) Tryz.underlying103 rfl k1.out ?_
 still_step
 still_call ((HN _).out.mono (by rintro e w' ⟨rfl,rfl⟩;exact⟨rfl,rfl⟩))
 refine wpStill_nil ?_
 refine wpList_store_row rfl 103 (.tmp 2) (.tmp 8) rfl w.heap.size K rfl rfl 103 _ (heap_alloc2_old w _ _) k1.out k3.out k2.out ?_
 go_wp2_with fail
 have hb:=(below_setRow ((((Below.refl w.heap.size w).alloc (Nat.le_refl _) (.cells zeros24 103)).alloc (by simp) (.cells K 103)).drew) (Nat.le_refl _) K)
 have hg:=setRow_heap (((w.alloc (.cells zeros24 103)).alloc (.cells K 103)).drew) w.heap.size _ K 103 (0,0) (heap_alloc2_old w _ _)
 simp only[zeros24] at hb hg
 generalize World.setRow _ _ _=W at *
 have hl:=run_loadVar_row W w.heap.size 103 103 K (0,0) _ hg Tryz.underlying103 rfl k1.out
 clear hg HC
 refine bodyPost_ret (v:=.tuple #[.agg K,.bool (nameOk s)]) ?_ rfl ⟨rfl,hb⟩
 simp only[results,Tryz.results38]
 trace_state
 simp[hl,asAddr]
end Go.Proofs.YtceflhffilldeaaGreat
namespace Go.Proofs.YtceflhffilldeaaGreat
open Go.RowKit Go.Maps Go.WideMaps
def MapIs (w:World) (m:Value) (n:Nat) (D:DataW Unit):Prop:=
 (m=.map none∧D=.map [])∨∃ b,m=.map (some b)∧w.ownsMap Tryz.prog 103 (plainElem Tryz.prog 9) b n D
def mapBlock:Value→Option Nat | .map (some b)=>some b | _=>none
def text (t:ByteArray):DataW Unit:=.lit (.string t.data.toList)
theorem sZero (w:World):(zeroValue 9).run Tryz.prog w=.ok (.string ⟨#[]⟩) w:=by kernel_rfl
theorem MapIs.look {w:World} {m:Value} {n:Nat} {D:DataW Unit} (h:MapIs w m n D) (s:ByteArray) :
  ∃ v:ByteArray,(Instr.lookup 99 m (.agg (keyCells s)) true).run Tryz.prog w=.ok (.tuple #[.string v,.bool (has D (fkey s))]) w∧D.atKey (fkey s) (text ⟨#[]⟩)=text v:=by
 rcases h with ⟨rfl,rfl⟩ | ⟨b,rfl,hown⟩
 ·exact⟨⟨#[]⟩,Maps.look_nil (P:=Tryz.prog) true sKeyed Tryz.underlying99 (sZero w) (keyOf_name s),rfl⟩
 ·obtain⟨v,ps,hrun,hv⟩:=hown.look_ok sKeyed Tryz.underlying99 (sZero w) (plainElem_string Tryz.underlying9 (s:=⟨#[]⟩) (by decide)) (keyOf_name s)
  obtain⟨t,rfl,hz,_⟩:=plainElem_string_inv Tryz.underlying9 hv
  injection hz with h1 _
  exact⟨t,hrun,h1⟩
theorem MapIs.len {w:World} {m:Value} {n:Nat} {D:DataW Unit} (h:MapIs w m n D) (ty:TypeId):(Builtin.len_ #[99] ty #[m]).run Tryz.prog w=.ok (.int .i64 (Maps.size D)) w:=by
 rcases h with ⟨rfl,rfl⟩ | ⟨b,rfl,hown⟩
 ·exact Maps.len_nil Tryz.underlying99 ty
 ·exact hown.len Tryz.underlying99 ty
theorem MapIs.drop {w:World} {m:Value} {n:Nat} {D:DataW Unit} (h:MapIs w m n D) (s:ByteArray) (ty:TypeId) :
  ∃ w',(Builtin.delete_ #[99,103] ty #[m,.agg (keyCells s)]).run Tryz.prog w=.ok (.tuple #[]) w'∧MapIs w' m n (D.del (fkey s))∧w.grownBy w' (mapBlock m):=by
 rcases h with ⟨rfl,rfl⟩ | ⟨b,rfl,hown⟩
 ·exact⟨w,Maps.drop_nil sKeyed Tryz.underlying99 (keyOf_name s) ty,Or.inl ⟨rfl,rfl⟩,World.grownBy.refl w _⟩
 ·obtain⟨w',hrun,h1,h2⟩:=hown.drop sKeyed Tryz.underlying99 (keyOf_name s) ty
  exact⟨w',hrun,Or.inr ⟨b,rfl,h1⟩,h2.grown⟩
theorem MapIs.drew {w:World} {m:Value} {n:Nat} {D:DataW Unit} (h:MapIs w m n D):MapIs w.drew m n D:=h
theorem MapIs.kept {S:Nat→Prop} {w w':World} {m:Value} {n:Nat} {D:DataW Unit} (h:MapIs w m n D) (hk:Kept S w w') (hS:∀ b,mapBlock m=some b→S b):MapIs w' m n D:=by
 rcases h with ⟨rfl,rfl⟩ | ⟨b,rfl,es,clock,hb,F,hs,hD⟩
 ·exact Or.inl ⟨rfl,rfl⟩
 ·exact Or.inr ⟨b,rfl,es,clock,(hk.block b (hS b rfl)).trans hb,F,hs,hD⟩
theorem MapIs.lt {w:World} {m:Value} {n:Nat} {D:DataW Unit} (h:MapIs w m n D) {b:Nat} (hb:mapBlock m=some b):b<w.heap.size:=by
 rcases h with ⟨rfl,rfl⟩ | ⟨b',rfl,hown⟩
 ·cases hb
 ·injection hb with e;subst e;exact hown.lt
theorem MapIs.tidy {w:World} {m:Value} {n:Nat} {D:DataW Unit} (h:MapIs w m n D):Tidy D:=by
 rcases h with ⟨rfl,rfl⟩ | ⟨b',rfl,hown⟩
 ·exact tidy_empty
 ·obtain⟨es,e,h1,h2⟩:=hown.canon sKeyed
  exact⟨es,e,apart_of_rising h1⟩
theorem wpStill_lookup {P:Program} {ops:Array Oper} {rest:List Oper} {o:Oper} {a:Act} {w:World} {Q:Act→Prop} (hgd:o.guard=none) (m x:Operand) (t:TypeId) (c:Bool) (ho:o.op=.lookup t m x c)
  (mv key r:Value) (hm:a.eval m=mv) (hx:a.eval x=key) (hrun:(Instr.lookup t mv key c).run P w=.ok r w)
  (h:wpStill P ops w Q rest (a.put o.dst r)):wpStill P ops w Q (o::rest) a:=by
 refine wpStill_step fun K hK=>?_
 rw[if_pos (by simp[Region.wanted,hgd])]
 unfold Oper.still
 simp only[execOp,ho,hm,hx,Sem.run_bind,hrun,Sem.run_pure,Result.andThen_ok]
 rw[Oper.stillUpon_value]
 exact hK _ h
theorem wpList_store_new {P:Program} {ops:Array Oper} {rest:List Oper} {o:Oper} {a:Act} {w:World} {Q:Exit→Act→World→Prop} (hgd:o.guard=none) (ty:TypeId) (x y:Operand) (ho:o.op=.store ty x y)
  (w1:World) (cells old:Array Value) (t:TypeId) (hw:w=w1.alloc (.cells old t)) (hx:a.eval x=.pointer (some ⟨w1.heap.size,0,none⟩)) (hy:a.eval y=.agg cells)
  (hi:(P.info? ty).map (·.size)=some cells.size) (hold:old.size=cells.size) (h1:cells.all (·.oneCell')=true)
  (h:wpList P ops Q rest (a.put o.dst undef) (w1.alloc (.cells cells t))):wpList P ops Q (o::rest) a w:=by
 subst hw
 refine wpList_store_row hgd ty x y ho w1.heap.size cells hx hy t old (heap_alloc_new w1 _) hi hold h1 ?_
 rw[setRow_last]
 exact h
theorem store_new (w:World):Calls Tryz.prog 25 #[] w fun e w'=>e=.returned (.pointer (some ⟨w.heap.size,0,none⟩))∧w'=w.alloc (.cells #[.map none] 101):=by
 go_enter Tryz.func25,Tryz.ntmps25
 go_wp2_with fail
 go_ret
 exact⟨rfl,rfl⟩
theorem store_put_some (s t:ByteArray) (p n:Nat) (b:Nat) (D:DataW Unit) (w:World) (hs:s.size≤9223372036854775807) (hp:w.cell? ⟨p,0,none⟩=some (.map (some b))) (hown:w.ownsMap Tryz.prog 103 (plainElem Tryz.prog 9) b n D)
  (hok:nameOk s=true) (ht:t.size≤131072) (hroom:Maps.has D (fkey s)=true∨Maps.size D≠64) (hn:n<maxLen) :
  Calls Tryz.prog 20 #[.pointer (some ⟨p,0,none⟩),.string s,.string t] w fun e w'=>e=.returned (.int .i64 0) ∧
   w'.ownsMap Tryz.prog 103 (plainElem Tryz.prog 9) b (n+1) (D.put (fkey s) (text t))∧Kept (fun k=>k<w.heap.size∧k≠b) w w':=by
 have OF:=fun W=>zh (store_of s W hs)
 have k1:=zh (key_size s)
 have k2:=zh (key_one s)
 have k3:Hid (24=(keyCells s).size):=rfl
 have k4:=zh (keyOf_name s)
 have hplt:=zh (block_lt_of_cell hp)
 have hown':=zh hown
 have hroom':=zh hroom
 clear hroom hown
 rw[hok] at OF
 have ht':(t.size:Int)≤131072:=by omega
 generalize hK:keyCells s=K at *
 have hK:=zh hK
 have qT:∀ (w:World) (r:Option Nat),(binOp .eql 99 (.map r) (.map none)).run Tryz.prog w=.ok (.bool r.isNone) w:=fun w r=>run_eql_map_nil w _ _ _ r Tryz.underlying99
 go_enter Tryz.func20,Tryz.ntmps20
 go_wp2_with (first | (go_at_call 38;refine(OF _).out.mono ?_;rintro e w1 ⟨rfl,hb1⟩;obtain⟨hc1,hf1⟩:=kcell hb1) | (refine wpList_store_new rfl 103 (.tmp 7) (.tmp 14) rfl _ K _ _ rfl rfl rfl k1.out k3.out k2.out ?_))
 have W0:w1.heap.size<(w1.alloc (.cells K 103)).heap.size:=by simp
 have W1:(w1.alloc (.cells K 103)).cell? ⟨p,0,none⟩=some (.map (some b)):=by
  rw[World.cell?_alloc_lt w1 _ _ (Nat.lt_of_lt_of_le hplt.out hb1.size)];exact(hb1.cell hplt.out).trans hp
 have W2:=heap_alloc_new w1 (.cells K 103)
 have W3:Kept (fun k=>k<w.heap.size∧k≠b) w (w1.alloc (.cells K 103)):=((Kept.refl _ w).below hb1 (fun k h=>h.1)).alloc (fun k h=>Nat.lt_of_lt_of_le h.1 hb1.size) _
 have W4:(w1.alloc (.cells K 103)).ownsMap Tryz.prog 103 (plainElem Tryz.prog 9) b n D:=by
  obtain⟨es,clock,hb,F,hs,hD⟩:=hown'.out
  exact⟨es,clock,((Below.heap_alloc w1 _ b (Nat.lt_of_lt_of_le hown'.out.lt hb1.size)).trans (hb1.block b hown'.out.lt)).trans hb,F,hs,hD⟩
 have W5:w.heap.size≤w1.heap.size:=hb1.size
 generalize w1.heap.size=g at *
 generalize w1.alloc (.cells K 103)=W at *
 clear hc1 hf1 hb1 hp
 have W2:=zh W2
 have W4:=zh W4
 obtain⟨v,hl,hv⟩:=MapIs.look (w:=W.drew) (Or.inr ⟨b,rfl,W4.out⟩) s
 have HL:=MapIs.len (w:=W.drew) (Or.inr ⟨b,rfl,W4.out⟩) 3
 rw[hK.out] at hl
 clear hv
 have hl:=zh hl
 refine region_still_drew 10 (by kernel_rfl) (by kernel_rfl) ?_
 simp only[List.take_succ_cons,List.take_zero,List.drop_succ_cons,List.drop_zero]
 still_step
 still_step
 still_step
 still_step
 refine wpStill_load_row rfl 103 (.tmp 7) rfl g rfl 103 K (0,0) _ W2.out Tryz.underlying103 rfl k1.out ?_
 refine wpStill_lookup rfl (.tmp 30) (.tmp 31) 99 true rfl _ _ _ rfl rfl hl.out ?_
 still_step
 still_step
 still_step
 still_step
 refine wpStill_nil ?_
 have hc:has D (fkey s)=true∨has D (fkey s)=false∧((Maps.size D:Int)==64)=false:=by
  rcases hroom'.out with h | h
  ·exact Or.inl h
  ·cases h1:has D (fkey s)
   ·exact Or.inr ⟨rfl,by rw[beq_eq_false_iff_ne];omega⟩
   ·exact Or.inl rfl
 have hown2:Hid (W.drew.ownsMap Tryz.prog 103 (plainElem Tryz.prog 9) b n D):=zh W4.out
 have W3':Kept (fun k=>k<w.heap.size∧k≠b) w W.drew:=W3.drew
 clear W3 W4 hl
 have W2:Hid (W.drew.heap[g]?=some (.cells K 103 (0,0))):=zh W2.out
 have W1:W.drew.cell? ⟨p,0,none⟩=some (.map (some b)):=W1
 generalize W.drew=W' at *
 rcases hc with hc | ⟨hc,hd⟩
 ·go_wp2_with fail
  refine region_still_drew 6 (by kernel_rfl) (by kernel_rfl) ?_
  simp only[List.take_succ_cons,List.take_zero,List.drop_succ_cons,List.drop_zero]
  still_step
  still_step
  still_step
  still_step
  refine wpStill_load_row rfl 103 (.tmp 7) rfl g rfl 103 K (0,0) _ W2.out Tryz.underlying103 rfl k1.out ?_
  still_step
  refine wpStill_nil ?_
  refine wpList_mapUpdate_own _ rfl (.tmp 57) (.tmp 58) (.tmp 59) 99 rfl 103 9 sKeyed Tryz.underlying99 (plainElem Tryz.prog 9) b n D rfl hown2.out hn (.agg K) (.string t) (fkey s) rfl rfl k4.out (text t) [] (plainElem_string Tryz.underlying9 (by simp only[maxLen];omega)) ?_
  intro w2 hown3 hg3
  have hown3:=zh hown3
  go_wp2_with fail
  go_ret
  exact⟨rfl,hown3.out,(W3'.drew).grown hg3 (fun k h=>Nat.lt_of_lt_of_le h.1 W3'.size) (fun k hk h=>by injection hk with hk;exact h.2 hk.symm)⟩
 ·go_wp2_with fail
  refine region_still_drew 6 (by kernel_rfl) (by kernel_rfl) ?_
  simp only[List.take_succ_cons,List.take_zero,List.drop_succ_cons,List.drop_zero]
  still_step
  still_step
  still_step
  still_step
  refine wpStill_load_row rfl 103 (.tmp 7) rfl g rfl 103 K (0,0) _ W2.out Tryz.underlying103 rfl k1.out ?_
  still_step
  refine wpStill_nil ?_
  refine wpList_mapUpdate_own _ rfl (.tmp 57) (.tmp 58) (.tmp 59) 99 rfl 103 9 sKeyed Tryz.underlying99 (plainElem Tryz.prog 9) b n D rfl hown2.out hn (.agg K) (.string t) (fkey s) rfl rfl k4.out (text t) [] (plainElem_string Tryz.underlying9 (by simp only[maxLen];omega)) ?_
  intro w2 hown3 hg3
  have hown3:=zh hown3
  go_wp2_with fail
  go_ret
  exact⟨rfl,hown3.out,(W3'.drew).grown hg3 (fun k h=>Nat.lt_of_lt_of_le h.1 W3'.size) (fun k hk h=>by injection hk with hk;exact h.2 hk.symm)⟩
theorem store_put_bad (s t:ByteArray) (a:Addr) (w:World) (hs:s.size≤9223372036854775807) (hok:nameOk s=false) :
  Calls Tryz.prog 20 #[.pointer (some a),.string s,.string t] w fun e w'=>e=.returned (.int .i64 70)∧Below w.heap.size w w':=by
 have OF:=fun W=>zh (store_of s W hs)
 have k1:=zh (key_size s)
 have k2:=zh (key_one s)
 have k3:Hid (24=(keyCells s).size):=rfl
 rw[hok] at OF
 generalize keyCells s=K at *
 go_enter Tryz.func20,Tryz.ntmps20
 go_wp2_with (first | (go_at_call 38;refine(OF _).out.mono ?_;rintro e w1 ⟨rfl,hb1⟩;obtain⟨hc1,hf1⟩:=kcell hb1) | (refine wpList_store_new rfl 103 (.tmp 7) (.tmp 14) rfl _ K _ _ rfl rfl rfl k1.out k3.out k2.out ?_))
 go_ret
 exact⟨rfl,(hb1.alloc hb1.size _)⟩
theorem store_put_long (s t:ByteArray) (a:Addr) (w:World) (hs:s.size≤9223372036854775807) (hok:nameOk s=true) (ht:131072<(t.size:Int)) :
  Calls Tryz.prog 20 #[.pointer (some a),.string s,.string t] w fun e w'=>e=.returned (.int .i64 2)∧Below w.heap.size w w':=by
 have OF:=fun W=>zh (store_of s W hs)
 have k1:=zh (key_size s)
 have k2:=zh (key_one s)
 have k3:Hid (24=(keyCells s).size):=rfl
 rw[hok] at OF
 generalize keyCells s=K at *
 go_enter Tryz.func20,Tryz.ntmps20
 go_wp2_with (first | (go_at_call 38;refine(OF _).out.mono ?_;rintro e w1 ⟨rfl,hb1⟩;obtain⟨hc1,hf1⟩:=kcell hb1) | (refine wpList_store_new rfl 103 (.tmp 7) (.tmp 14) rfl _ K _ _ rfl rfl rfl k1.out k3.out k2.out ?_))
 go_ret
 exact⟨rfl,(hb1.alloc hb1.size _)⟩
theorem store_put_full (s t:ByteArray) (p n:Nat) (m:Value) (D:DataW Unit) (w:World) (hs:s.size≤9223372036854775807) (hp:Blk w p 101 #[m]) (hm:MapIs w m n D)
  (hok:nameOk s=true) (ht:(t.size:Int)≤131072) (hno:has D (fkey s)=false) (hfull:Maps.size D=64) :
  Calls Tryz.prog 20 #[.pointer (some ⟨p,0,none⟩),.string s,.string t] w fun e w'=>e=.returned (.int .i64 3)∧Below w.heap.size w w':=by
 have OF:=fun W=>zh (store_of s W hs)
 have k1:=zh (key_size s)
 have k2:=zh (key_one s)
 have k3:Hid (24=(keyCells s).size):=rfl
 have k4:=zh (keyOf_name s)
 have hp:=zh hp
 have hm':=zh hm
 clear hm
 rw[hok] at OF
 generalize hK:keyCells s=K at *
 have hK:=zh hK
 have qT:∀ (w:World) (r:Option Nat),(binOp .eql 99 (.map r) (.map none)).run Tryz.prog w=.ok (.bool r.isNone) w:=fun w r=>run_eql_map_nil w _ _ _ r Tryz.underlying99
 go_enter Tryz.func20,Tryz.ntmps20
 go_wp2_with (first | (go_at_call 38;refine(OF _).out.mono ?_;rintro e w1 ⟨rfl,hb1⟩;obtain⟨hc1,hf1⟩:=kcell hb1) | (refine wpList_store_new rfl 103 (.tmp 7) (.tmp 14) rfl _ K _ _ rfl rfl rfl k1.out k3.out k2.out ?_))
 have W0:w1.heap.size<(w1.alloc (.cells K 103)).heap.size:=by simp
 have W1:Blk (w1.alloc (.cells K 103)) p 101 #[m]:=(hp.out.below hb1 hp.out.lt).alloc _
 have W2:Blk (w1.alloc (.cells K 103)) w1.heap.size 103 K:=heap_alloc_new w1 _
 have W3:Kept (fun k=>k<w.heap.size) w (w1.alloc (.cells K 103)):=((Kept.refl _ w).below hb1 (fun k h=>h)).alloc (fun k h=>Nat.lt_of_lt_of_le h hb1.size) _
 have W4:MapIs (w1.alloc (.cells K 103)) m n D:=hm'.out.kept (((Kept.refl (fun k=>k<w.heap.size) w).below hb1 (fun k h=>h)).alloc (fun k h=>Nat.lt_of_lt_of_le h hb1.size) _) (fun b h=>hm'.out.lt h)
 have W5:w.heap.size≤w1.heap.size:=hb1.size
 generalize w1.heap.size=g at *
 generalize w1.alloc (.cells K 103)=W at *
 clear hc1 hf1 hb1
 have W2:=zh W2
 have W4:=zh W4
 obtain⟨v,hl,hv⟩:=MapIs.look (w:=W.drew) W4.out s
 have HL:=MapIs.len (w:=W.drew) W4.out 3
 rw[hK.out] at hl
 have hl:=zh hl
 have hv:=zh hv
 have C1:=W1.cell 0
 have C2:=W1.frozen 0
 simp only[List.getElem?_toArray,List.getElem?_cons_zero] at C1
 refine region_still_drew 10 (by kernel_rfl) (by kernel_rfl) ?_
 simp only[List.take_succ_cons,List.take_zero,List.drop_succ_cons,List.drop_zero]
 still_step
 still_step
 still_step
 still_step
 refine wpStill_load_row rfl 103 (.tmp 7) rfl g rfl 103 K (0,0) _ W2.out Tryz.underlying103 rfl k1.out ?_
 refine wpStill_lookup rfl (.tmp 30) (.tmp 31) 99 true rfl _ _ _ rfl rfl hl.out ?_
 still_step
 still_step
 still_step
 still_step
 refine wpStill_nil ?_
 have W1:Hid (Blk W.drew p 101 #[m]):=zh W1.drew
 have W2:Hid (Blk W.drew g 103 K):=zh W2.out
 have W4:Hid (MapIs W.drew m n D):=zh W4.out
 have W3':=zh W3.drew
 have C1:W.drew.cell? ⟨p,0,none⟩=some m:=C1
 have C2:W.drew.frozen? ⟨p,0,none⟩=false:=C2
 have W0:g<W.drew.heap.size:=W0
 clear W3 hl
 generalize W.drew=W' at *
 go_wp2_with fail
 go_ret
 exact⟨rfl,W3'.out.to_below (fun k h=>h)⟩
def Got (D:DataW Unit) (s:ByteArray) (e:Ending):Prop:=∃ v:ByteArray,e=.returned (.tuple #[.string v,.bool (has D (fkey s))])∧D.atKey (fkey s) (text ⟨#[]⟩)=text v
theorem store_get (s:ByteArray) (p n:Nat) (m:Value) (D:DataW Unit) (w:World) (hs:s.size≤9223372036854775807) (hp:Blk w p 101 #[m]) (hm:MapIs w m n D) (hok:nameOk s=true) :
  Calls Tryz.prog 18 #[.pointer (some ⟨p,0,none⟩),.string s] w fun e w'=>Got D s e∧Below w.heap.size w w':=by
 have OF:=fun W=>zh (store_of s W hs)
 have k1:=zh (key_size s)
 have k2:=zh (key_one s)
 have k3:Hid (24=(keyCells s).size):=rfl
 have k4:=zh (keyOf_name s)
 have hp:=zh hp
 have hm':=zh hm
 clear hm
 rw[hok] at OF
 generalize hK:keyCells s=K at *
 have hK:=zh hK
 have qT:∀ (w:World) (r:Option Nat),(binOp .eql 99 (.map r) (.map none)).run Tryz.prog w=.ok (.bool r.isNone) w:=fun w r=>run_eql_map_nil w _ _ _ r Tryz.underlying99
 go_enter Tryz.func18,Tryz.ntmps18
 go_wp2_with (first | (go_at_call 38;refine(OF _).out.mono ?_;rintro e w1 ⟨rfl,hb1⟩;obtain⟨hc1,hf1⟩:=kcell hb1) | (refine wpList_store_new rfl 103 (.tmp 6) (.tmp 12) rfl _ K _ _ rfl rfl rfl k1.out k3.out k2.out ?_))
 have W0:w1.heap.size<(w1.alloc (.cells K 103)).heap.size:=by simp
 have W1:Blk (w1.alloc (.cells K 103)) p 101 #[m]:=(hp.out.below hb1 hp.out.lt).alloc _
 have W2:Blk (w1.alloc (.cells K 103)) w1.heap.size 103 K:=heap_alloc_new w1 _
 have W3:Kept (fun k=>k<w.heap.size) w (w1.alloc (.cells K 103)):=((Kept.refl _ w).below hb1 (fun k h=>h)).alloc (fun k h=>Nat.lt_of_lt_of_le h hb1.size) _
 have W4:MapIs (w1.alloc (.cells K 103)) m n D:=hm'.out.kept (((Kept.refl (fun k=>k<w.heap.size) w).below hb1 (fun k h=>h)).alloc (fun k h=>Nat.lt_of_lt_of_le h hb1.size) _) (fun b h=>hm'.out.lt h)
 have W5:w.heap.size≤w1.heap.size:=hb1.size
 generalize w1.heap.size=g at *
 generalize w1.alloc (.cells K 103)=W at *
 clear hc1 hf1 hb1
 have W2:=zh W2
 have W4:=zh W4
 obtain⟨v,hl,hv⟩:=MapIs.look (w:=W.drew) W4.out s
 have HL:=MapIs.len (w:=W.drew) W4.out 3
 rw[hK.out] at hl
 have hl:=zh hl
 have hv:=zh hv
 have C1:=W1.cell 0
 have C2:=W1.frozen 0
 simp only[List.getElem?_toArray,List.getElem?_cons_zero] at C1
 refine region_still_drew 10 (by kernel_rfl) (by kernel_rfl) ?_
 simp only[List.take_succ_cons,List.take_zero,List.drop_succ_cons,List.drop_zero]
 still_step
 still_step
 still_step
 still_step
 refine wpStill_load_row rfl 103 (.tmp 6) rfl g rfl 103 K (0,0) _ W2.out Tryz.underlying103 rfl k1.out ?_
 refine wpStill_lookup rfl (.tmp 24) (.tmp 25) 99 true rfl _ _ _ rfl rfl hl.out ?_
 still_step
 still_step
 still_step
 still_step
 refine wpStill_nil ?_
 have W1:Hid (Blk W.drew p 101 #[m]):=zh W1.drew
 have W2:Hid (Blk W.drew g 103 K):=zh W2.out
 have W4:Hid (MapIs W.drew m n D):=zh W4.out
 have W3':=zh W3.drew
 have C1:W.drew.cell? ⟨p,0,none⟩=some m:=C1
 have C2:W.drew.frozen? ⟨p,0,none⟩=false:=C2
 have W0:g<W.drew.heap.size:=W0
 clear W3 hl
 generalize W.drew=W' at *
 go_wp2_with fail
 go_ret2
 exact⟨⟨v,rfl,hv.out⟩,W3'.out.to_below (fun k h=>h)⟩
theorem store_get_bad (s:ByteArray) (a:Addr) (w:World) (hs:s.size≤9223372036854775807) (hok:nameOk s=false) :
  Calls Tryz.prog 18 #[.pointer (some a),.string s] w fun e w'=>e=.returned (.tuple #[.string ⟨#[]⟩,.bool false])∧Below w.heap.size w w':=by
 have OF:=fun W=>zh (store_of s W hs)
 have k1:=zh (key_size s)
 have k2:=zh (key_one s)
 have k3:Hid (24=(keyCells s).size):=rfl
 rw[hok] at OF
 generalize keyCells s=K at *
 go_enter Tryz.func18,Tryz.ntmps18
 go_wp2_with (first | (go_at_call 38;refine(OF _).out.mono ?_;rintro e w1 ⟨rfl,hb1⟩;obtain⟨hc1,hf1⟩:=kcell hb1) | (refine wpList_store_new rfl 103 (.tmp 6) (.tmp 12) rfl _ K _ _ rfl rfl rfl k1.out k3.out k2.out ?_))
 go_ret2
 exact⟨rfl,(hb1.alloc hb1.size _)⟩
theorem store_put_nil (s t:ByteArray) (p:Nat) (w:World) (hs:s.size≤9223372036854775807) (hp:Blk w p 101 #[.map none]) (hok:nameOk s=true) (ht:(t.size:Int)≤131072) :
  Calls Tryz.prog 20 #[.pointer (some ⟨p,0,none⟩),.string s,.string t] w fun e w'=>e=.returned (.int .i64 0) ∧
   ∃ b,Blk w' p 101 #[.map (some b)]∧w'.ownsMap Tryz.prog 103 (plainElem Tryz.prog 9) b 1 (DataW.put (.map []) (fkey s) (text t))∧w.heap.size≤b∧Kept (fun k=>k<w.heap.size∧k≠p) w w':=by
 have hm:MapIs w (.map none) 0 (.map []):=Or.inl ⟨rfl,rfl⟩
 have Hm:∃ m:Value,m=.map none:=⟨_,rfl⟩
 have OF:=fun W=>zh (store_of s W hs)
 have k1:=zh (key_size s)
 have k2:=zh (key_one s)
 have k3:Hid (24=(keyCells s).size):=rfl
 have k4:=zh (keyOf_name s)
 have hp:=zh hp
 have hm':=zh hm
 clear hm
 rw[hok] at OF
 generalize hK:keyCells s=K at *
 have hK:=zh hK
 have qT:∀ (w:World) (r:Option Nat),(binOp .eql 99 (.map r) (.map none)).run Tryz.prog w=.ok (.bool r.isNone) w:=fun w r=>run_eql_map_nil w _ _ _ r Tryz.underlying99
 go_enter Tryz.func20,Tryz.ntmps20
 go_wp2_with (first | (go_at_call 38;refine(OF _).out.mono ?_;rintro e w1 ⟨rfl,hb1⟩;obtain⟨hc1,hf1⟩:=kcell hb1) | (refine wpList_store_new rfl 103 (.tmp 7) (.tmp 14) rfl _ K _ _ rfl rfl rfl k1.out k3.out k2.out ?_))
 have W0:w1.heap.size<(w1.alloc (.cells K 103)).heap.size:=by simp
 have W1:Blk (w1.alloc (.cells K 103)) p 101 #[.map none]:=(hp.out.below hb1 hp.out.lt).alloc _
 have W2:Blk (w1.alloc (.cells K 103)) w1.heap.size 103 K:=heap_alloc_new w1 _
 have W3:Kept (fun k=>k<w.heap.size∧k≠p) w (w1.alloc (.cells K 103)):=((Kept.refl _ w).below hb1 (fun k h=>h.1)).alloc (fun k h=>Nat.lt_of_lt_of_le h.1 hb1.size) _
 have W4:MapIs (w1.alloc (.cells K 103)) (.map none) 0 (.map []):=hm'.out.kept (((Kept.refl (fun k=>k<w.heap.size) w).below hb1 (fun k h=>h)).alloc (fun k h=>Nat.lt_of_lt_of_le h hb1.size) _) (fun b h=>hm'.out.lt h)
 have W5:w.heap.size≤w1.heap.size:=hb1.size
 generalize w1.heap.size=g at *
 generalize w1.alloc (.cells K 103)=W at *
 clear hc1 hf1 hb1
 have W2:=zh W2
 have W4:=zh W4
 obtain⟨v,hl,hv⟩:=MapIs.look (w:=W.drew) W4.out s
 have HL:=MapIs.len (w:=W.drew) W4.out 3
 rw[hK.out] at hl
 have hl:=zh hl
 have hv:=zh hv
 have C1:=W1.cell 0
 have C2:=W1.frozen 0
 simp only[List.getElem?_toArray,List.getElem?_cons_zero] at C1
 refine region_still_drew 10 (by kernel_rfl) (by kernel_rfl) ?_
 simp only[List.take_succ_cons,List.take_zero,List.drop_succ_cons,List.drop_zero]
 still_step
 still_step
 still_step
 still_step
 refine wpStill_load_row rfl 103 (.tmp 7) rfl g rfl 103 K (0,0) _ W2.out Tryz.underlying103 rfl k1.out ?_
 refine wpStill_lookup rfl (.tmp 30) (.tmp 31) 99 true rfl _ _ _ rfl rfl hl.out ?_
 still_step
 still_step
 still_step
 still_step
 refine wpStill_nil ?_
 have W1:Hid (Blk W.drew p 101 #[.map none]):=zh W1.drew
 have W2:Hid (Blk W.drew g 103 K):=zh W2.out
 have W4:Hid (MapIs W.drew (.map none) 0 (.map [])):=zh W4.out
 have W3':=zh W3.drew
 have C1:W.drew.cell? ⟨p,0,none⟩=some (.map none):=C1
 have C2:W.drew.frozen? ⟨p,0,none⟩=false:=C2
 have W0:g<W.drew.heap.size:=W0
 clear W3 hl
 generalize W.drew=W' at *
 have hplt:p<W'.heap.size:=W1.out.lt
 have hpg:g≠p:=by have:=hp.out.lt;omega
 have hx:has (DataW.map []:DataW Unit) (fkey s)=false:=rfl
 have hy:Maps.size (DataW.map []:DataW Unit)=0:=rfl
 simp only[hy] at HL
 have hmk:(Instr.makeMap 99 none).run Tryz.prog W'=.ok (.map (some W'.heap.size)) (W'.alloc (.map #[] 0)):=rfl
 go_wp2_with fail
 have V1:Hid (Blk ((W'.setCell ⟨p,0,none⟩ (.map (some W'.heap.size))).alloc (.map #[] 0)) p 101 #[.map (some W'.heap.size)]):=by
  have:=(W1.out.set_ 0 (.map (some W'.heap.size))).alloc (.map #[] 0);exact this
 have V2:Hid (Blk ((W'.setCell ⟨p,0,none⟩ (.map (some W'.heap.size))).alloc (.map #[] 0)) g 103 K):=(W2.out.far (p:=⟨p,0,none⟩) hpg _).alloc _
 have V3:Hid (Kept (fun k=>k<w.heap.size∧k≠p) w ((W'.setCell ⟨p,0,none⟩ (.map (some W'.heap.size))).alloc (.map #[] 0))):=
  (W3'.out.setCell (p:=⟨p,0,none⟩) (fun h=>h.2 rfl) _).alloc (fun k h=>by have:=h.1;have:=W3'.out.size;simp[World.setCell];omega) _
 have V4:Hid (((W'.setCell ⟨p,0,none⟩ (.map (some W'.heap.size))).alloc (.map #[] 0)).ownsMap Tryz.prog 103 (plainElem Tryz.prog 9) W'.heap.size 0 (.map []:DataW Unit)):=by
  have e:(W'.setCell ⟨p,0,none⟩ (.map (some W'.heap.size))).heap.size=W'.heap.size:=by simp[World.setCell]
  have:=World.ownsMap_made (W'.setCell ⟨p,0,none⟩ (.map (some W'.heap.size))) Tryz.prog 103 (plainElem (H:=Unit) Tryz.prog 9)
  rw[e] at this
  exact this
 have V5:w.heap.size≤W'.heap.size:=W3'.out.size
 have V6:Hid (w.heap.size<((W'.setCell ⟨p,0,none⟩ (.map (some W'.heap.size))).alloc (.map #[] 0)).heap.size):=by show _<_;simp[World.setCell];omega
 have U1:=V1.out.cell 0
 simp only[List.getElem?_toArray,List.getElem?_cons_zero] at U1
 generalize (W'.setCell ⟨p,0,none⟩ (.map (some W'.heap.size))).alloc (.map #[] 0)=X at *
 have hne:W'.heap.size≠p:=by omega
 generalize W'.heap.size=b at *
 clear C1 C2 HL
 refine region_still_drew 6 (by kernel_rfl) (by kernel_rfl) ?_
 simp only[List.take_succ_cons,List.take_zero,List.drop_succ_cons,List.drop_zero]
 still_step
 still_step
 still_step
 still_step
 refine wpStill_load_row rfl 103 (.tmp 7) rfl g rfl 103 K (0,0) _ V2.out Tryz.underlying103 rfl k1.out ?_
 still_step
 refine wpStill_nil ?_
 refine wpList_mapUpdate_own _ rfl (.tmp 57) (.tmp 58) (.tmp 59) 99 rfl 103 9 sKeyed Tryz.underlying99 (plainElem Tryz.prog 9) b 0 (.map []) rfl V4.out (by decide) (.agg K) (.string t) (fkey s) rfl rfl k4.out (text t) [] (plainElem_string Tryz.underlying9 (by simp only[maxLen];omega)) ?_
 intro w2 hown3 hg3
 have hown3:=zh hown3
 go_wp2_with fail
 go_ret
 exact⟨rfl,b,V1.out.drew.grown hg3 (fun e=>by injection e with e;omega),hown3.out,V5,V3.out.drew.grown hg3 (fun k h=>Nat.lt_trans h.1 V6.out) (fun k hk h=>by injection hk with hk;have:=h.1;omega)⟩
end Go.Proofs.YtceflhffilldeaaGreat
namespace Go.Proofs.YtceflhffilldeaaGreat
open Go.RowKit Go.Maps Go.WideMaps
theorem fkey_key (s:ByteArray):WideAt.IsKeyLit (fkey s):=sKeyed.key (keyOf_name s)
theorem fkey_ne {a b:ByteArray} (ha:nameOk a=true) (hb:nameOk b=true) (h:a≠b):fkey a≠fkey b:=fun e=>h (fkey_inj a b ha hb e)
end Go.Proofs.YtceflhffilldeaaGreat
namespace Go.Proofs.YtceflhffilldeaaGreat
open Go.RowKit Go.Maps Go.WideMaps
def Named (D:DataW Unit):Prop:=∀ kl,has D kl=true→∃ s,nameOk s=true∧kl=fkey s
theorem named_empty:Named (.map []):=fun kl h=>by cases h
theorem named_put {D:DataW Unit} (h:Named D) {s:ByteArray} (hs:nameOk s=true) (d:DataW Unit):Named (D.put (fkey s) d):=by
 intro kl hkl
 by_cases e:kl=fkey s
 ·exact⟨s,hs,e⟩
 ·rw[has_put_other e] at hkl
  exact h kl hkl
end Go.Proofs.YtceflhffilldeaaGreat
namespace Go.Proofs.YtceflhffilldeaaGreat
open Go.RowKit Go.Maps Go.WideMaps
end Go.Proofs.YtceflhffilldeaaGreat
namespace Go.Proofs.YtceflhffilldeaaGreat
open Go.RowKit Go.Maps Go.WideMaps Go.Sort
end Go.Proofs.YtceflhffilldeaaGreat
namespace Go.Proofs.YtceflhffilldeaaGreat
open Go.RowKit Go.Maps Go.WideMaps
end Go.Proofs.YtceflhffilldeaaGreat
