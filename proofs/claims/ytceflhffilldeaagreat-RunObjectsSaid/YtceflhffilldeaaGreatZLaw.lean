/-
  Joined: ZLaw.
-/
import Derived.RowKit
import Derived.Laws.BitsAllLaws
import GoSem.Core.Value
set_option linter.unusedVariables false
set_option linter.unusedSimpArgs false
set_option maxRecDepth 100000
set_option maxHeartbeats 16000000
namespace Go.Proofs.YtceflhffilldeaaGreat
open Go.RowKit
namespace Bw
def Lsl (x n:Int):Int:=x*2 ^ (n % 32).toNat % 4294967296
def Asr (x n:Int):Int:=wrap32 x / 2 ^ (n % 32).toNat % 4294967296
def Ror (x n:Int):Int:=x / 2 ^ (n % 32).toNat+x % 2 ^ (n % 32).toNat * 2 ^ (32-(n % 32).toNat)
def may (lo n:Int):Bool:=decide (0≤lo∧1≤n∧lo+n≤32)
def Get (x lo n:Int):Int:=if may lo n=true then x / 2 ^ lo.toNat % 2 ^ n.toNat else 0
def Put (x lo n v:Int):Int:=if may lo n=true then x-x / 2 ^ lo.toNat % 2 ^ n.toNat * 2 ^ lo.toNat+v % 2 ^ n.toNat * 2 ^ lo.toNat else x
def few (n:Int):Bool:=decide (1≤n∧n≤32)
def Extend (v n:Int):Int:=if few n=true then (v+2 ^ (n.toNat-1)) % 2 ^ n.toNat-2 ^ (n.toNat-1) else 0
def Fits (v n:Int):Bool:=few n && decide (-(2 ^ (n.toNat-1))≤v∧v<2 ^ (n.toNat-1))
theorem pow_pos (n:Nat):(0:Int)<2 ^ n:=Int.pow_pos (by decide)
theorem pow_mono {a b:Nat} (h:a≤b):(2:Int) ^ a≤2 ^ b:=by
 have:=Nat.pow_le_pow_right (n:=2) (by decide) h
 exact_mod_cast this
theorem pow_cast (n:Nat):((2 ^ n:Nat):Int)=(2:Int) ^ n:=by simp
theorem or_add (a b:Int) (k:Nat) (ha0:0≤a) (hb0:0≤b) (h:a % 2 ^ k=0) (hb:b<2 ^ k) (ha':a<4294967296) (hb':b<4294967296) :
  bits .or .u32 a b=a+b:=by
 rw[u32_or a b ha0 ha' hb0 hb']
 obtain⟨A,rfl⟩:=Int.eq_ofNat_of_zero_le ha0
 obtain⟨B,rfl⟩:=Int.eq_ofNat_of_zero_le hb0
 rw[Int.toNat_natCast,Int.toNat_natCast]
 rw[← pow_cast] at h hb
 have h':A % 2 ^ k=0:=by exact_mod_cast h
 have hb'':B<2 ^ k:=by exact_mod_cast hb
 rw[nat_join k A B h' hb'']
 simp
theorem and_mask (a:Int) (k:Nat) (ha0:0≤a) (ha':a<4294967296) (hk:k≤32) :
  bits .and .u32 a (2 ^ k-1)=a % 2 ^ k:=by
 have hp:=pow_pos k
 have hm:(2:Int) ^ k≤2 ^ 32:=pow_mono hk
 rw[u32_and a _ ha0 ha' (by omega) (by omega)]
 obtain⟨A,rfl⟩:=Int.eq_ofNat_of_zero_le ha0
 have e:((2:Int) ^ k-1).toNat=2 ^ k-1:=by
  rw[← pow_cast];omega
 rw[Int.toNat_natCast,e,Nat.and_two_pow_sub_one_eq_mod,← pow_cast]
 simp
theorem pow_split (a b:Nat) (h:a≤b):(2:Int) ^ b=2 ^ a*2 ^ (b-a):=by
 rw[← Int.pow_add];congr 1;omega
theorem mul_mod_pow (x:Int) (a b:Nat) (h:a≤b):x*2 ^ a % 2 ^ b=x % 2 ^ (b-a)*2 ^ a:=by
 rw[pow_split a b h,Int.mul_comm x,Int.mul_emod_mul_of_pos _ _ (pow_pos a),Int.mul_comm]
theorem div_lt_pow (x:Int) (m:Nat) (hx0:0≤x) (hx:x<4294967296) (hm:m≤32):x / 2 ^ m<2 ^ (32-m):=by
 have hp:=pow_pos m
 refine Int.ediv_lt_of_lt_mul hp ?_
 rw[← Int.pow_add,show 32-m+m=32 by omega];exact hx
theorem rotl (x n:Int) (hx:0≤x) (hx':x<4294967296) (hn:-31≤n) (hn':n≤0) :
  bits .or .u32 (x*2 ^ (n % 32).toNat % 4294967296) (x / 2 ^ (32-n % 32).toNat)=Ror x (-n):=by
 by_cases h0:n=0
 ·subst h0
  simp only[Ror,show (0:Int) % 32=0 from rfl,show (-(0:Int)) % 32=0 from rfl,show (32-0:Int).toNat=32 from rfl,Int.toNat_zero,Int.pow_zero,Int.mul_one,Int.ediv_one,Int.emod_one,Int.zero_mul,Int.add_zero]
  rw[Int.emod_eq_of_lt hx hx',show x / (2:Int) ^ 32=0 from Int.ediv_eq_zero_of_lt hx hx',or_add x 0 0 hx (by decide) (by simp[Int.emod_one]) (by decide) hx' (by decide),Int.add_zero]
 ·obtain⟨m,rfl⟩:∃ m:Nat,n=-(m:Int):=⟨(-n).toNat,by omega⟩
  have e1:(-(m:Int) % 32).toNat=32-m:=by omega
  have e2:(32 - -(m:Int) % 32).toNat=m:=by omega
  have e3:(- -(m:Int) % 32).toNat=m:=by omega
  simp only[Ror,e1,e2,e3]
  have hm:m≤32:=by omega
  have hu:x*2 ^ (32-m) % 4294967296=x % 2 ^ m*2 ^ (32-m):=by
   have:=mul_mod_pow x (32-m) 32 (by omega)
   rw[show 32-(32-m)=m by omega] at this
   exact this
  have hd:=div_lt_pow x m hx hx' hm
  have hd0:0≤x / 2 ^ m:=Int.ediv_nonneg hx (Int.le_of_lt (pow_pos m))
  have hl:x / 2 ^ m≤x:=Int.ediv_le_self _ hx
  have hb:0≤x*2 ^ (32-m) % 4294967296∧x*2 ^ (32-m) % 4294967296<4294967296:=by omega
  rw[or_add _ _ (32-m) hb.1 hd0 (by rw[hu];exact Int.mul_emod_left _ _) hd hb.2 (by omega),hu,Int.add_comm]
theorem u64_and31 (n:Int):bits .and .u64 (IntKind.u64.wrap n) 31=n % 32:=by
 have hw:IntKind.u64.wrap n=n % 18446744073709551616:=by simp[IntKind.wrap,IntKind.bits,IntKind.signed]
 rw[hw,u64_and _ _ (by omega) (by omega) (by decide) (by decide)]
 obtain⟨A,hA⟩:=Int.eq_ofNat_of_zero_le (show 0≤n % 18446744073709551616 by omega)
 rw[hA,Int.toNat_natCast,show (31:Int).toNat=31 from rfl,nat_mask5]
 omega
theorem may_iff (lo n:Int):may lo n=true↔0≤lo∧1≤n∧lo+n≤32:=by simp[may]
theorem few_iff (n:Int):few n=true↔1≤n∧n≤32:=by simp[few]
theorem few_no (n:Int):few n=false↔¬ (1≤n∧n≤32):=by simp only[few,decide_eq_false_iff_not]
theorem mask_val (n:Int) (h0:1≤n) (h1:n≤32):((2:Int) ^ n.toNat % 4294967296-1) % 4294967296=2 ^ n.toNat-1:=by
 have hp:=pow_pos n.toNat
 have hm:(2:Int) ^ n.toNat≤2 ^ 32:=pow_mono (by omega)
 by_cases h:n.toNat=32
 ·rw[h];decide
 ·have hm':(2:Int) ^ n.toNat≤2 ^ 31:=pow_mono (by omega)
  rw[Int.emod_eq_of_lt (a:=2 ^ n.toNat) (by omega) (by omega),Int.emod_eq_of_lt (by omega) (by omega)]
theorem get_val (x lo n:Int) (hx:0≤x) (hx':x<4294967296) (hm:may lo n=true) :
  bits .and .u32 (x / 2 ^ lo.toNat) (2 ^ n.toNat-1)=Get x lo n:=by
 have hi:=(may_iff lo n).1 hm
 have h0:0≤x / 2 ^ lo.toNat:=Int.ediv_nonneg hx (Int.le_of_lt (pow_pos _))
 have h1:x / 2 ^ lo.toNat≤x:=Int.ediv_le_self _ hx
 rw[and_mask _ _ h0 (by omega) (by omega),Get,if_pos hm]
theorem extend_val (v n:Int) (h0:1≤n) (h1:n≤32) :
  wrap64 (wrap32 (v*2 ^ (32-n).toNat % 4294967296) / 2 ^ (32-n).toNat)=Extend v n:=by
 obtain⟨m,hm,rfl⟩:∃ m:Nat,m≤31∧n=((32-m:Nat):Int):=⟨(32-n).toNat,by omega,by omega⟩
 have e1:(32-((32-m:Nat):Int)).toNat=m:=by omega
 rw[e1,Extend,if_pos ((few_iff _).2 ⟨by omega,by omega⟩),Int.toNat_natCast]
 have hp:=pow_pos m
 have hq:=pow_pos (32-m)
 have hr:(2:Int) ^ (32-m)=2 ^ (32-m-1)*2:=by rw[← Int.pow_succ];congr 1;omega
 have hh:(2147483648:Int)=2 ^ (32-m-1)*2 ^ m:=by rw[← Int.pow_add,show 32-m-1+m=31 by omega];rfl
 have hw:wrap32 (v*2 ^ m % 4294967296)=((v+2 ^ (32-m-1)) % 2 ^ (32-m)-2 ^ (32-m-1))*2 ^ m:=by
  have ha:wrap32 (v*2 ^ m % 4294967296)=(v*2 ^ m+2147483648) % 4294967296-2147483648:=by unfold wrap32;omega
  rw[ha,hh,← Int.add_mul,Int.sub_mul]
  have:=mul_mod_pow (v+2 ^ (32-m-1)) m 32 (by omega)
  rw[show (4294967296:Int)=2 ^ 32 from rfl,this]
 rw[hw,Int.mul_ediv_cancel _ (by omega)]
 have hb:=Int.emod_lt_of_pos (v+2 ^ (32-m-1)) hq
 have hc:=Int.emod_nonneg (v+2 ^ (32-m-1)) (show (2:Int) ^ (32-m)≠0 by omega)
 have hd:(2:Int) ^ (32-m)≤2 ^ 32:=pow_mono (by omega)
 have he:=pow_pos (32-m-1)
 generalize (v+2 ^ (32-m-1)) % 2 ^ (32-m)=a at *
 generalize (2:Int) ^ (32-m-1)=b at *
 unfold wrap64;omega
theorem put_nat (x v l k:Nat) (h:l+k≤32) (hx:x<2 ^ 32) :
  x &&& (2 ^ 32-1-(2 ^ k-1)*2 ^ l) ||| v*2 ^ l % 2 ^ 32 &&& (2 ^ k-1)*2 ^ l=2 ^ (l+k)*(x / 2 ^ (l+k))+(2 ^ l*(v % 2 ^ k)+x % 2 ^ l):=by
 have hm:(2 ^ k-1)*2 ^ l<2 ^ 32:=by
  have h1:2 ^ k*2 ^ l≤2 ^ 32:=by rw[← Nat.pow_add];exact Nat.pow_le_pow_right (by decide) (by omega)
  have h2:=Nat.two_pow_pos k
  have h3:=Nat.two_pow_pos l
  rw[Nat.sub_mul];omega
 have hlow:x % 2 ^ l<2 ^ l:=Nat.mod_lt _ (Nat.two_pow_pos l)
 have hmid:2 ^ l*(v % 2 ^ k)+x % 2 ^ l<2 ^ (l+k):=by
  have h1:v % 2 ^ k+1≤2 ^ k:=Nat.mod_lt _ (Nat.two_pow_pos k)
  have h2:=Nat.mul_le_mul_left (2 ^ l) h1
  rw[Nat.pow_add];rw[Nat.mul_add] at h2;omega
 apply Nat.eq_of_testBit_eq
 intro i
 rw[Nat.testBit_or,Nat.testBit_and,Nat.testBit_and,show 2 ^ 32-1-(2 ^ k-1)*2 ^ l=2 ^ 32-((2 ^ k-1)*2 ^ l+1) by omega,Nat.testBit_two_pow_sub_succ hm,Nat.testBit_mod_two_pow,
  Nat.testBit_mul_two_pow,Nat.testBit_mul_two_pow,Nat.testBit_two_pow_sub_one,Nat.testBit_two_pow_mul_add _ hmid,Nat.testBit_two_pow_mul_add _ hlow,Nat.testBit_mod_two_pow,Nat.testBit_mod_two_pow,Nat.testBit_div_two_pow]
 by_cases h32:i<32
 ·by_cases h1:i<l
  ·have:i<l+k:=by omega
   have h4:¬ l≤i:=by omega
   simp[h1,this,h4,h32]
  ·by_cases h2:i<l+k
   ·have h3:l≤i:=by omega
    have h4:i-l<k:=by omega
    simp[h1,h2,h3,h4,h32]
   ·have h3:l≤i:=by omega
    have h4:¬ (i-l<k):=by omega
    simp[h2,h3,h4,h32,show i-(l+k)+(l+k)=i by omega]
 ·have h2:¬ (i<l+k):=by omega
  have h5:x.testBit i=false:=Nat.testBit_lt_two_pow (Nat.lt_of_lt_of_le hx (Nat.pow_le_pow_right (by decide) (by omega)))
  simp[h2,h32,h5,show i-(l+k)+(l+k)=i by omega]
theorem split3 (x l k:Nat):x=2 ^ (l+k)*(x / 2 ^ (l+k))+(2 ^ l*(x / 2 ^ l % 2 ^ k)+x % 2 ^ l):=by
 have h1:=Nat.div_add_mod x (2 ^ l)
 have h2:=Nat.div_add_mod (x / 2 ^ l) (2 ^ k)
 rw[Nat.div_div_eq_div_mul,← Nat.pow_add] at h2
 rw[← h2,Nat.mul_add,← Nat.mul_assoc,← Nat.pow_add] at h1
 omega
theorem put_val (x lo n v:Int) (hx:0≤x) (hx':x<4294967296) (hv:0≤v) (hv':v<4294967296) (hm:may lo n=true) :
  bits .or .u32 (bits .andNot .u32 x ((2 ^ n.toNat-1)*2 ^ lo.toNat % 4294967296)) (bits .and .u32 (v*2 ^ lo.toNat % 4294967296) ((2 ^ n.toNat-1)*2 ^ lo.toNat % 4294967296))=Put x lo n v:=by
 have hi:=(may_iff lo n).1 hm
 rw[Put,if_pos hm]
 obtain⟨X,rfl⟩:=Int.eq_ofNat_of_zero_le hx
 obtain⟨V,rfl⟩:=Int.eq_ofNat_of_zero_le hv
 generalize hl:lo.toNat=l at *
 generalize hk:n.toNat=k at *
 have hlk:l+k≤32:=by omega
 have h1:2 ^ k*2 ^ l≤2 ^ 32:=by rw[← Nat.pow_add];exact Nat.pow_le_pow_right (by decide) (by omega)
 have h2:=Nat.two_pow_pos k
 have h3:=Nat.two_pow_pos l
 have hM:(2 ^ k-1)*2 ^ l<4294967296:=by rw[Nat.sub_mul];omega
 have eM:((2:Int) ^ k-1)*2 ^ l % 4294967296=(((2 ^ k-1)*2 ^ l:Nat):Int):=by
  have:((2:Int) ^ k-1)*2 ^ l=(((2 ^ k-1)*2 ^ l:Nat):Int):=by
   rw[Int.natCast_mul,Int.natCast_sub (by omega)];simp
  rw[this];omega
 have eV:(V:Int)*2 ^ l % 4294967296=((V*2 ^ l % 4294967296:Nat):Int):=by
  rw[← pow_cast l];simp
 have hX:X<4294967296:=by omega
 have hVl:V*2 ^ l % 4294967296<4294967296:=Nat.mod_lt _ (by decide)
 rw[eM,eV,u32_andNot_nat _ _ hX hM,u32_and_nat _ _ hVl hM]
 rw[u32_or_nat _ _ (Nat.lt_of_le_of_lt Nat.and_le_left hX) (Nat.lt_of_le_of_lt Nat.and_le_right hM)]
 have hp:=put_nat X V l k hlk (by omega)
 rw[show (2:Nat) ^ 32-1=4294967295 from rfl,show (2:Nat) ^ 32=4294967296 from rfl] at hp
 rw[hp]
 have hs:=split3 X l k
 have a1:(X:Int) / 2 ^ l % 2 ^ k*2 ^ l=((2 ^ l*(X / 2 ^ l % 2 ^ k):Nat):Int):=by
  rw[← pow_cast l,← pow_cast k,Nat.mul_comm];simp
 have a2:(V:Int) % 2 ^ k*2 ^ l=((2 ^ l*(V % 2 ^ k):Nat):Int):=by
  rw[← pow_cast l,← pow_cast k,Nat.mul_comm];simp
 rw[a1,a2]
 omega
theorem wrap64_pow (m:Nat) (h:m≤62):wrap64 (2 ^ m)=2 ^ m:=by
 have h1:=pow_pos m
 have h2:(2:Int) ^ m≤2 ^ 62:=pow_mono h
 unfold wrap64;omega
theorem wrap64_neg_pow (m:Nat) (h:m≤62):wrap64 (-2 ^ m)=-2 ^ m:=by
 have h1:=pow_pos m
 have h2:(2:Int) ^ m≤2 ^ 62:=pow_mono h
 unfold wrap64;omega
theorem wrapU64_of {n:Int} (h0:0≤n) (h1:n<18446744073709551616):IntKind.u64.wrap n=n:=by
 have hw:IntKind.u64.wrap n=n % 18446744073709551616:=by simp[IntKind.wrap,IntKind.bits,IntKind.signed]
 rw[hw];omega
theorem wrapU64_emod (n:Int):IntKind.u64.wrap n=n % 18446744073709551616:=by simp[IntKind.wrap,IntKind.bits,IntKind.signed]
theorem mul_pow_bd (x:Int) (a b:Nat) (h0:0≤x) (h:x<2 ^ a):0≤x*2 ^ b∧x*2 ^ b<2 ^ (a+b):=by
 refine⟨Int.mul_nonneg h0 (Int.le_of_lt (pow_pos b)),?_⟩
 rw[Int.pow_add];exact Int.mul_lt_mul_of_pos_right h (pow_pos b)
theorem powStep (k:Nat) (h:k<63):IntKind.u64.wrap (2 ^ k*2)=2 ^ (k+1):=by
 have h1:=pow_pos k
 have h2:(2:Int) ^ k≤2 ^ 62:=pow_mono (by omega)
 rw[wrapU64_of (by omega) (by omega),Int.pow_succ]
theorem ror_bd (x:Int) (k:Nat) (hx:0≤x) (hx':x<4294967296) (hk:k≤32):0≤x / 2 ^ k+x % 2 ^ k*2 ^ (32-k)∧x / 2 ^ k+x % 2 ^ k*2 ^ (32-k)<4294967296:=by
 have hp:=pow_pos k
 have hd0:0≤x / 2 ^ k:=Int.ediv_nonneg hx (by omega)
 have hd:=div_lt_pow x k hx hx' hk
 have h1:=Int.emod_nonneg x (show (2:Int) ^ k≠0 by omega)
 have h2:=Int.emod_lt_of_pos x hp
 have hb:=mul_pow_bd (x % 2 ^ k) k (32-k) h1 h2
 have h3:x % 2 ^ k+1≤2 ^ k:=by omega
 have h4:=Int.mul_le_mul_of_nonneg_right h3 (Int.le_of_lt (pow_pos (32-k)))
 rw[← Int.pow_add,show k+(32-k)=32 by omega,Int.add_mul,Int.one_mul] at h4
 constructor
 ·omega
 ·have:(2:Int) ^ 32=4294967296:=rfl
  omega
theorem emod_le {a b:Int} (h0:0≤a) (hb:0<b):a % b≤a:=by
 have h1:=Int.mul_ediv_add_emod a b
 have h2:0≤b*(a / b):=Int.mul_nonneg (Int.le_of_lt hb) (Int.ediv_nonneg h0 (Int.le_of_lt hb))
 omega
theorem refGet_val (x lo n:Int) (hx:0≤x) (hx':x<4294967296) (hm:may lo n=true) :
  x / 2 ^ lo.toNat % 2 ^ n.toNat % 4294967296=Get x lo n:=by
 rw[Get,if_pos hm]
 have h0:0≤x / 2 ^ lo.toNat:=Int.ediv_nonneg hx (Int.le_of_lt (pow_pos _))
 have h1:x / 2 ^ lo.toNat≤x:=Int.ediv_le_self _ hx
 have h2:=Int.emod_nonneg (x / 2 ^ lo.toNat) (show (2:Int) ^ n.toNat≠0 by have:=pow_pos n.toNat;omega)
 have h3:x / 2 ^ lo.toNat % 2 ^ n.toNat≤x / 2 ^ lo.toNat:=emod_le h0 (pow_pos _)
 omega
theorem refGet_val' (x lo n:Int) (hx:0≤x) (hx':x<4294967296) (hm:may lo n=true) :
  (x / 2 ^ lo.toNat).tmod (2 ^ n.toNat) % 4294967296=Get x lo n:=by
 rw[Int.tmod_eq_emod_of_nonneg (Int.ediv_nonneg hx (Int.le_of_lt (pow_pos _)))];exact refGet_val x lo n hx hx' hm
theorem tmod_32 (n:Int):n.tmod 4294967296 % 4294967296=n % 4294967296∧-4294967296<n.tmod 4294967296∧n.tmod 4294967296<4294967296:=by
 have h:=Int.tmod_eq_emod (a:=n) (b:=4294967296)
 rw[h]
 split<;>omega
theorem word_val (n:Int):wrap64 (n.tmod 4294967296+4294967296) % 4294967296=n % 4294967296:=by
 obtain⟨h1,h2,h3⟩:=tmod_32 n
 unfold wrap64;omega
theorem get_bd (x lo n:Int) (hx:0≤x) (hx':x<4294967296):0≤Get x lo n∧Get x lo n<4294967296:=by
 cases hm:may lo n
 ·simp[Get,hm]
 ·have:=refGet_val x lo n hx hx' hm
  omega
theorem get_lt (x lo n:Int) (hm:may lo n=true):0≤Get x lo n∧Get x lo n<2 ^ n.toNat:=by
 rw[Get,if_pos hm]
 exact⟨Int.emod_nonneg _ (by have:=pow_pos n.toNat;omega),Int.emod_lt_of_pos _ (pow_pos _)⟩
theorem part_bd (y:Int) (l k:Nat) (h:l+k≤32) (h0:0≤y) (h1:y<2 ^ k):0≤y*2 ^ l∧y*2 ^ l<4294967296:=by
 have hb:=mul_pow_bd y k l h0 h1
 have:(2:Int) ^ (k+l)≤2 ^ 32:=pow_mono (by omega)
 exact⟨hb.1,by omega⟩
theorem get_part (x lo n:Int) (hx:0≤x) (hm:may lo n=true):Get x lo n*2 ^ lo.toNat≤x:=by
 rw[Get,if_pos hm]
 have hd0:0≤x / 2 ^ lo.toNat:=Int.ediv_nonneg hx (Int.le_of_lt (pow_pos _))
 have h1:=emod_le hd0 (pow_pos n.toNat)
 have h2:=Int.mul_le_mul_of_nonneg_right h1 (Int.le_of_lt (pow_pos lo.toNat))
 have h3:=Int.ediv_mul_le x (show (2:Int) ^ lo.toNat≠0 by have:=pow_pos lo.toNat;omega)
 omega
theorem put_bd (x lo n v:Int) (hx:0≤x) (hx':x<4294967296):0≤Put x lo n v∧Put x lo n v<4294967296:=by
 cases hm:may lo n
 ·simp[Put,hm];omega
 ·have hi:=(may_iff lo n).1 hm
  obtain⟨X,rfl⟩:=Int.eq_ofNat_of_zero_le hx
  rw[Put,if_pos hm]
  generalize hl:lo.toNat=l at *
  generalize hk:n.toNat=k at *
  have hs:=split3 X l k
  have h2:=Int.emod_lt_of_pos v (pow_pos k)
  have h3:=Int.emod_nonneg v (show (2:Int) ^ k≠0 by have:=pow_pos k;omega)
  have a1:(X:Int) / 2 ^ l % 2 ^ k*2 ^ l=((2 ^ l*(X / 2 ^ l % 2 ^ k):Nat):Int):=by
   rw[← pow_cast l,← pow_cast k,Nat.mul_comm];simp
  have hu:2 ^ (l+k)*(X / 2 ^ (l+k))+2 ^ (l+k)≤4294967296:=by
   have e:(4294967296:Nat)=2 ^ (l+k)*2 ^ (32-(l+k)):=by rw[← Nat.pow_add,show l+k+(32-(l+k))=32 by omega]
   have hq:X / 2 ^ (l+k)<2 ^ (32-(l+k)):=by
    rw[Nat.div_lt_iff_lt_mul (Nat.two_pow_pos _),← Nat.pow_add,show 32-(l+k)+(l+k)=32 by omega];omega
   have:=Nat.mul_le_mul_left (2 ^ (l+k)) (show X / 2 ^ (l+k)+1≤2 ^ (32-(l+k)) from hq)
   rw[Nat.mul_add] at this
   omega
  have hlow:X % 2 ^ l<2 ^ l:=Nat.mod_lt _ (Nat.two_pow_pos l)
  have hv1:(v % 2 ^ k+1)*2 ^ l≤2 ^ (l+k):=by
   rw[Nat.add_comm l k,Int.pow_add];exact Int.mul_le_mul_of_nonneg_right (by omega) (Int.le_of_lt (pow_pos l))
  rw[Int.add_mul,Int.one_mul,← pow_cast (l+k),← pow_cast l] at hv1
  have hv0:=(mul_pow_bd (v % 2 ^ k) k l h3 h2).1
  rw[← pow_cast l] at hv0
  rw[a1,← pow_cast l]
  generalize v % 2 ^ k*((2 ^ l:Nat):Int)=V at *
  generalize 2 ^ (l+k)*(X / 2 ^ (l+k))=U at *
  generalize 2 ^ l*(X / 2 ^ l % 2 ^ k)=M at *
  generalize 2 ^ (l+k)=P at *
  generalize 2 ^ l=Q at *
  generalize X % Q=R at *
  omega
theorem fits_eq (v n:Int) (hm:few n=true):Fits v n=decide (-(2 ^ n.toNat / 2)≤v∧v<2 ^ n.toNat / 2):=by
 have hi:=(few_iff n).1 hm
 have hr:(2:Int) ^ n.toNat=2 ^ (n.toNat-1)*2:=by rw[← Int.pow_succ];congr 1;omega
 rw[Fits,hm,hr,Int.mul_ediv_cancel _ (by decide),Bool.true_and]
theorem refPut_val (x lo n v:Int) (hx:0≤x) (hx':x<4294967296) (hv:0≤v) (hm:may lo n=true) :
  IntKind.u64.wrap (IntKind.u64.wrap (x-IntKind.u64.wrap (Get x lo n*2 ^ lo.toNat))+IntKind.u64.wrap (v % 2 ^ n.toNat * 2 ^ lo.toNat)) % 4294967296=Put x lo n v:=by
 have hi:=(may_iff lo n).1 hm
 have hg:=get_lt x lo n hm
 have h1:=part_bd (Get x lo n) lo.toNat n.toNat (by omega) hg.1 hg.2
 have h2:=get_part x lo n hx hm
 have h3:=part_bd (v % 2 ^ n.toNat) lo.toNat n.toNat (by omega) (Int.emod_nonneg _ (by have:=pow_pos n.toNat;omega)) (Int.emod_lt_of_pos _ (pow_pos _))
 have hb:=put_bd x lo n v hx hx'
 rw[wrapU64_of h1.1 (by omega),wrapU64_of h3.1 (by omega),wrapU64_of (n:=x-_) (by omega) (by omega),wrapU64_of (by omega) (by omega)]
 rw[Put,if_pos hm] at *
 rw[Get,if_pos hm] at *
 omega
end Bw
end Go.Proofs.YtceflhffilldeaaGreat
namespace Go.Proofs.YtceflhffilldeaaGreat
open Go.RowKit Bw
namespace Fx
def okLink (r s m b:Int):Bool:=decide (0≤r∧r<16) && decide (0≤s∧s<4) && decide (0≤m∧m<64) && decide (0≤b∧b<16384)
def link (r s m b:Int):Int:=if okLink r s m b=true then r*268435456+s*67108864+m*1048576+b else 0
def isLink (w:Int):Bool:=w / 16384 % 64==0
def reg (w:Int):Int:=if isLink w=true then w / 268435456 else 0
def sort (w:Int):Int:=if isLink w=true then w / 67108864 % 4 else 0
def mod (w:Int):Int:=if isLink w=true then w / 1048576 % 64 else 0
def back (w:Int):Int:=if isLink w=true then w % 16384 else 0
theorem get14 (w:Int):Get w 14 6=w / 16384 % 64:=rfl
theorem get26 (w:Int):Get w 26 2=w / 67108864 % 4:=rfl
theorem get20 (w:Int):Get w 20 6=w / 1048576 % 64:=rfl
theorem get0 (w:Int):Get w 0 14=w % 16384:=by
 show w / 1 % 16384=_
 rw[Int.ediv_one]
end Fx
end Go.Proofs.YtceflhffilldeaaGreat
namespace Go.Proofs.YtceflhffilldeaaGreat
open Go.RowKit Bw
structure Ins where
 form:Int
 u:Bool
 v:Bool
 a:Int
 b:Int
 c:Int
 op:Int
 im:Int
 deriving DecidableEq
namespace Ins
def cells (x:Ins):Array Value:=#[.int .i64 x.form,.bool x.u,.bool x.v,.int .i64 x.a,.int .i64 x.b,.int .i64 x.c,.int .i64 x.op,.int .i64 x.im]
def val (x:Ins):Value:=.agg x.cells
def zero:Ins:=⟨0,false,false,0,0,0,0,0⟩
def half (v n:Int):Bool:=decide (0≤v∧v<2 ^ n.toNat)
def uop (op:Int):Bool:=decide (op=0∨8≤op∧op≤10)
def inb (n a b:Int):Bool:=decide (a≤n∧n≤b)
def good (x:Ins):Bool:=
 half x.a 4 && half x.b 4 && half x.c 4 && inb x.op 0 11 &&
 (if x.form=0 then (!x.v || (x.u && decide (x.op=0))) && decide (x.im=0) && (!x.u || uop x.op)
  else if x.form=1 then half x.im 16 && decide (x.c=0) && (!x.u || uop x.op)
  else if x.form=2 then Fits x.im 20 && decide (x.c=0) && decide (x.op=0)
  else if x.form=3 then decide (x.b=0) && decide (x.op=0) && (if x.u=true then decide (x.c=0) && Fits x.im 24 else decide (x.im=0))
  else false)
def fits (x:Ins):Prop:=-9223372036854775808≤x.form∧x.form≤9223372036854775807∧-9223372036854775808≤x.a∧x.a≤9223372036854775807∧-9223372036854775808≤x.b∧x.b≤9223372036854775807 ∧
 -9223372036854775808≤x.c∧x.c≤9223372036854775807∧-9223372036854775808≤x.op∧x.op≤9223372036854775807∧-9223372036854775808≤x.im∧x.im≤9223372036854775807
end Ins
theorem fits20 (x:Int):Fits x 20=decide (-524288≤x∧x<524288):=by
 rw[Fits,show few 20=true from rfl,Bool.true_and];rfl
theorem fits24 (x:Int):Fits x 24=decide (-8388608≤x∧x<8388608):=by
 rw[Fits,show few 24=true from rfl,Bool.true_and];rfl
theorem half4 (x:Int):Ins.half x 4=decide (0≤x∧x<16):=rfl
theorem half16 (x:Int):Ins.half x 16=decide (0≤x∧x<65536):=rfl
namespace Ins
def one (b:Bool) (k:Nat):Int:=if b=true then 2 ^ k else 0
def enc (x:Ins):Int:=
 x.form*1073741824+one x.u 29+one x.v 28+x.a*16777216 +
 (if x.form=3 then x.c+x.im % 16777216 else x.b*1048576+(if x.form=2 then x.im % 1048576 else x.op*65536+x.c+x.im))
theorem good_range (x:Ins) (h:x.good=true):0≤x.form∧x.form≤3∧0≤x.a∧x.a<16∧0≤x.b∧x.b<16∧0≤x.c∧x.c<16∧0≤x.op∧x.op≤11:=by
 simp only[good,half4,inb,Bool.and_eq_true,decide_eq_true_eq] at h
 obtain⟨⟨⟨⟨h1,h2⟩,h3⟩,h4⟩,h5⟩:=h
 have h6:0≤x.form∧x.form≤3:=by
  by_cases e0:x.form=0
  ·omega
  by_cases e1:x.form=1
  ·omega
  by_cases e2:x.form=2
  ·omega
  by_cases e3:x.form=3
  ·omega
  rw[if_neg e0,if_neg e1,if_neg e2,if_neg e3] at h5
  cases h5
 omega
end Ins
theorem one29 (b:Bool):Ins.one b 29=0∨Ins.one b 29=536870912:=by cases b<;>simp[Ins.one]
theorem one28 (b:Bool):Ins.one b 28=0∨Ins.one b 28=268435456:=by cases b<;>simp[Ins.one]
theorem join4 (f a:Int) (u v:Bool) (hf:0≤f) (hf':f≤3) (ha:0≤a) (ha':a<16) :
  bits .or .u32 (bits .or .u32 (bits .or .u32 (f*1073741824) (Ins.one u 29)) (Ins.one v 28)) (a*16777216)=f*1073741824+Ins.one u 29+Ins.one v 28+a*16777216:=by
 have h1:=one29 u
 have h2:=one28 v
 generalize Ins.one u 29=U at *
 generalize Ins.one v 28=V at *
 rw[or_add (f*1073741824) (U) 30 (by omega) (by omega) (by omega) (by omega) (by omega) (by omega)]
 rw[or_add (f*1073741824+U) (V) 29 (by omega) (by omega) (by omega) (by omega) (by omega) (by omega)]
 rw[or_add (f*1073741824+U+V) (a*16777216) 28 (by omega) (by omega) (by omega) (by omega) (by omega) (by omega)]
theorem join4_bd (f a:Int) (u v:Bool) (hf:0≤f) (hf':f≤3) (ha:0≤a) (ha':a<16) :
  ∃ q:Int,f*1073741824+Ins.one u 29+Ins.one v 28+a*16777216=q*16777216∧0≤q∧q<256:=by
 have h1:=one29 u
 have h2:=one28 v
 generalize Ins.one u 29=U at *
 generalize Ins.one v 28=V at *
 exact⟨(f*1073741824+U+V+a*16777216) / 16777216,by omega,by omega,by omega⟩
theorem and24 (x:Int) (h:0≤x) (h':x<4294967296):bits .and .u32 x 16777215=x % 16777216:=by
 have:=and_mask x 24 h h' (by omega)
 simpa using this
theorem and20 (x:Int) (h:0≤x) (h':x<4294967296):bits .and .u32 x 1048575=x % 1048576:=by
 have:=and_mask x 20 h h' (by omega)
 simpa using this
theorem enc_reg (f a b op c im:Int) (u v:Bool) (hf:0≤f) (hf':f≤3) (ha:0≤a) (ha':a<16) (hb:0≤b) (hb':b<16) (ho:0≤op) (ho':op<16) (hc:0≤c) (hc':c<16) (hi:0≤im) (hi':im<65536) (h0:c=0∨im=0) :
  bits .or .u32 (bits .or .u32 (bits .or .u32 (bits .or .u32 (bits .or .u32 (bits .or .u32 (bits .or .u32 (f*1073741824) (Ins.one u 29)) (Ins.one v 28)) (a*16777216)) (b*1048576)) (op*65536)) c) im =
   f*1073741824+Ins.one u 29+Ins.one v 28+a*16777216+(b*1048576+(op*65536+c+im)):=by
 rw[join4 f a u v hf hf' ha ha']
 obtain⟨q,hq,q0,q1⟩:=join4_bd f a u v hf hf' ha ha'
 rw[hq]
 rw[or_add (q*16777216) (b*1048576) 24 (by omega) (by omega) (by omega) (by omega) (by omega) (by omega)]
 rw[or_add (q*16777216+b*1048576) (op*65536) 20 (by omega) (by omega) (by omega) (by omega) (by omega) (by omega)]
 rw[or_add (q*16777216+b*1048576+op*65536) (c) 16 (by omega) (by omega) (by omega) (by omega) (by omega) (by omega)]
 rcases h0 with h0 | h0
 ·rw[or_add (q*16777216+b*1048576+op*65536+c) (im) 16 (by omega) (by omega) (by omega) (by omega) (by omega) (by omega)];omega
 ·rw[or_add (q*16777216+b*1048576+op*65536+c) (im) 0 (by omega) (by omega) (by omega) (by omega) (by omega) (by omega)];omega
theorem enc_mem (f a b im:Int) (u v:Bool) (hf:0≤f) (hf':f≤3) (ha:0≤a) (ha':a<16) (hb:0≤b) (hb':b<16) :
  bits .or .u32 (bits .or .u32 (bits .or .u32 (bits .or .u32 (bits .or .u32 (f*1073741824) (Ins.one u 29)) (Ins.one v 28)) (a*16777216)) (b*1048576)) (bits .and .u32 (im % 4294967296) 1048575) =
   f*1073741824+Ins.one u 29+Ins.one v 28+a*16777216+(b*1048576+im % 1048576):=by
 rw[join4 f a u v hf hf' ha ha',and20 _ (by omega) (by omega)]
 obtain⟨q,hq,q0,q1⟩:=join4_bd f a u v hf hf' ha ha'
 rw[hq]
 rw[or_add (q*16777216) (b*1048576) 24 (by omega) (by omega) (by omega) (by omega) (by omega) (by omega)]
 rw[or_add (q*16777216+b*1048576) (im % 4294967296 % 1048576) 20 (by omega) (by omega) (by omega) (by omega) (by omega) (by omega)]
 omega
theorem enc_jump (f a c im:Int) (u v:Bool) (hf:0≤f) (hf':f≤3) (ha:0≤a) (ha':a<16) (hc:0≤c) (hc':c<16) (h0:c=0∨im=0) :
  bits .or .u32 (bits .or .u32 (bits .or .u32 (bits .or .u32 (bits .or .u32 (f*1073741824) (Ins.one u 29)) (Ins.one v 28)) (a*16777216)) c) (bits .and .u32 (im % 4294967296) 16777215) =
   f*1073741824+Ins.one u 29+Ins.one v 28+a*16777216+(c+im % 16777216):=by
 rw[join4 f a u v hf hf' ha ha',and24 _ (by omega) (by omega)]
 obtain⟨q,hq,q0,q1⟩:=join4_bd f a u v hf hf' ha ha'
 rw[hq]
 rw[or_add (q*16777216) (c) 24 (by omega) (by omega) (by omega) (by omega) (by omega) (by omega)]
 rcases h0 with h0 | h0
 ·rw[or_add (q*16777216+c) (im % 4294967296 % 16777216) 24 (by omega) (by omega) (by omega) (by omega) (by omega) (by omega)];omega
 ·rw[or_add (q*16777216+c) (im % 4294967296 % 16777216) 0 (by omega) (by omega) (by omega) (by omega) (by omega) (by omega)];omega
theorem Ins.good_im0 (u v:Bool) (a b c op im:Int) (h:Ins.good ⟨0,u,v,a,b,c,op,im⟩=true):0≤im∧im≤0:=by
 simp[Ins.good,half4,Ins.inb] at h;omega
theorem Ins.good_im1 (u v:Bool) (a b c op im:Int) (h:Ins.good ⟨1,u,v,a,b,c,op,im⟩=true):0≤im∧im<65536:=by
 simp[Ins.good,half4,half16,Ins.inb] at h;omega
theorem Ins.good_im2 (u v:Bool) (a b c op im:Int) (h:Ins.good ⟨2,u,v,a,b,c,op,im⟩=true):-524288≤im∧im<524288:=by
 simp[Ins.good,half4,fits20,Ins.inb] at h;omega
theorem Ins.good_im3 (u v:Bool) (a b c op im:Int) (h:Ins.good ⟨3,u,v,a,b,c,op,im⟩=true):-8388608≤im∧im<8388608:=by
 cases u<;>simp[Ins.good,half4,fits24,Ins.inb] at h<;>omega
theorem enc_val_0 (u v:Bool) (a b c op im:Int) (h:Ins.good ⟨0,u,v,a,b,c,op,im⟩=true) :
  bits .or .u32 (bits .or .u32 (bits .or .u32 (bits .or .u32 (bits .or .u32 (bits .or .u32 (bits .or .u32 0 (Ins.one u 29)) (Ins.one v 28)) (a*16777216)) (b*1048576)) (op*65536)) c) im=Ins.enc ⟨0,u,v,a,b,c,op,im⟩:=by
 have hr:=Ins.good_range _ h
 have hi:=Ins.good_im0 u v a b c op im h
 simp only at hr
 have:=enc_reg 0 a b op c im u v (by omega) (by omega) (by omega) (by omega) (by omega) (by omega) (by omega) (by omega) (by omega) (by omega) (by omega) (by omega) (by omega)
 simpa [Ins.enc] using this
theorem enc_val_1 (u v:Bool) (a b c op im:Int) (h:Ins.good ⟨1,u,v,a,b,c,op,im⟩=true) :
  bits .or .u32 (bits .or .u32 (bits .or .u32 (bits .or .u32 (bits .or .u32 (bits .or .u32 (bits .or .u32 1073741824 (Ins.one u 29)) (Ins.one v 28)) (a*16777216)) (b*1048576)) (op*65536)) c) im=Ins.enc ⟨1,u,v,a,b,c,op,im⟩:=by
 have hr:=Ins.good_range _ h
 have hi:=Ins.good_im1 u v a b c op im h
 have hc:c=0:=by simp[Ins.good] at h;omega
 simp only at hr
 have:=enc_reg 1 a b op c im u v (by omega) (by omega) (by omega) (by omega) (by omega) (by omega) (by omega) (by omega) (by omega) (by omega) (by omega) (by omega) (by omega)
 simpa [Ins.enc] using this
theorem enc_val_2 (u v:Bool) (a b c op im:Int) (h:Ins.good ⟨2,u,v,a,b,c,op,im⟩=true) :
  bits .or .u32 (bits .or .u32 (bits .or .u32 (bits .or .u32 (bits .or .u32 2147483648 (Ins.one u 29)) (Ins.one v 28)) (a*16777216)) (b*1048576)) (bits .and .u32 (im % 4294967296) 1048575)=Ins.enc ⟨2,u,v,a,b,c,op,im⟩:=by
 have hr:=Ins.good_range _ h
 simp only at hr
 have:=enc_mem 2 a b im u v (by omega) (by omega) (by omega) (by omega) (by omega) (by omega)
 simpa [Ins.enc] using this
theorem enc_val_3 (u v:Bool) (a b c op im:Int) (h:Ins.good ⟨3,u,v,a,b,c,op,im⟩=true) :
  bits .or .u32 (bits .or .u32 (bits .or .u32 (bits .or .u32 (bits .or .u32 3221225472 (Ins.one u 29)) (Ins.one v 28)) (a*16777216)) c) (bits .and .u32 (im % 4294967296) 16777215)=Ins.enc ⟨3,u,v,a,b,c,op,im⟩:=by
 have hr:=Ins.good_range _ h
 have hc:c=0∨im=0:=by cases u<;>simp[Ins.good] at h<;>omega
 simp only at hr
 have:=enc_jump 3 a c im u v (by omega) (by omega) (by omega) (by omega) (by omega) (by omega) hc
 simpa [Ins.enc] using this
def Ins.bit (b:Bool):Int:=if b=true then 1 else 0
theorem Ins.bit_bd (b:Bool):0≤Ins.bit b∧Ins.bit b<2:=by cases b<;>simp[Ins.bit]
theorem Ins.one_bit (b:Bool) (k:Nat):Ins.one b k=Ins.bit b*2 ^ k:=by cases b<;>simp[Ins.one,Ins.bit]
theorem put_30_2 (x v:Int) (h:x / 1073741824 % 4=0):Put x 30 2 v=x+v % 4*1073741824:=by
 rw[Put,if_pos (show may 30 2=true from rfl),show (2:Int) ^ (30:Int).toNat=1073741824 from rfl,show (2:Int) ^ (2:Int).toNat=4 from rfl];omega
theorem put_29_1 (x v:Int) (h:x / 536870912 % 2=0):Put x 29 1 v=x+v % 2*536870912:=by
 rw[Put,if_pos (show may 29 1=true from rfl),show (2:Int) ^ (29:Int).toNat=536870912 from rfl,show (2:Int) ^ (1:Int).toNat=2 from rfl];omega
theorem put_28_1 (x v:Int) (h:x / 268435456 % 2=0):Put x 28 1 v=x+v % 2*268435456:=by
 rw[Put,if_pos (show may 28 1=true from rfl),show (2:Int) ^ (28:Int).toNat=268435456 from rfl,show (2:Int) ^ (1:Int).toNat=2 from rfl];omega
theorem put_24_4 (x v:Int) (h:x / 16777216 % 16=0):Put x 24 4 v=x+v % 16*16777216:=by
 rw[Put,if_pos (show may 24 4=true from rfl),show (2:Int) ^ (24:Int).toNat=16777216 from rfl,show (2:Int) ^ (4:Int).toNat=16 from rfl];omega
theorem put_20_4 (x v:Int) (h:x / 1048576 % 16=0):Put x 20 4 v=x+v % 16*1048576:=by
 rw[Put,if_pos (show may 20 4=true from rfl),show (2:Int) ^ (20:Int).toNat=1048576 from rfl,show (2:Int) ^ (4:Int).toNat=16 from rfl];omega
theorem put_16_4 (x v:Int) (h:x / 65536 % 16=0):Put x 16 4 v=x+v % 16*65536:=by
 rw[Put,if_pos (show may 16 4=true from rfl),show (2:Int) ^ (16:Int).toNat=65536 from rfl,show (2:Int) ^ (4:Int).toNat=16 from rfl];omega
theorem put_0_4 (x v:Int) (h:x / 1 % 16=0):Put x 0 4 v=x+v % 16*1:=by
 rw[Put,if_pos (show may 0 4=true from rfl),show (2:Int) ^ (0:Int).toNat=1 from rfl,show (2:Int) ^ (4:Int).toNat=16 from rfl];omega
theorem put_0_16 (x v:Int) (h:x / 1 % 65536=0):Put x 0 16 v=x+v % 65536*1:=by
 rw[Put,if_pos (show may 0 16=true from rfl),show (2:Int) ^ (0:Int).toNat=1 from rfl,show (2:Int) ^ (16:Int).toNat=65536 from rfl];omega
theorem put_0_20 (x v:Int) (h:x / 1 % 1048576=0):Put x 0 20 v=x+v % 1048576*1:=by
 rw[Put,if_pos (show may 0 20=true from rfl),show (2:Int) ^ (0:Int).toNat=1 from rfl,show (2:Int) ^ (20:Int).toNat=1048576 from rfl];omega
theorem put_0_24 (x v:Int) (h:x / 1 % 16777216=0):Put x 0 24 v=x+v % 16777216*1:=by
 rw[Put,if_pos (show may 0 24=true from rfl),show (2:Int) ^ (0:Int).toNat=1 from rfl,show (2:Int) ^ (24:Int).toNat=16777216 from rfl];omega
theorem enc_ref (u v:Bool) (f a b c op im:Int):Ins.enc ⟨f,u,v,a,b,c,op,im⟩=f*1073741824+Ins.bit u*536870912+Ins.bit v*268435456+a*16777216 +
  (if f=3 then c+im % 16777216 else b*1048576+(if f=2 then im % 1048576 else op*65536+c+im)):=by
 rw[Ins.enc,Ins.one_bit,Ins.one_bit];simp only;rfl
theorem Ins.good_ci (f:Int) (u v:Bool) (a b c op im:Int) (h:Ins.good ⟨f,u,v,a,b,c,op,im⟩=true):(f=0→im=0)∧(f=1→c=0)∧(f=2→c=0∧op=0)∧(f=3→b=0∧op=0∧((u=true→c=0)∧(u=false→im=0))):=by
 refine⟨?_,?_,?_,?_⟩
 ·rintro rfl;simp[Ins.good] at h;omega
 ·rintro rfl;simp[Ins.good] at h;omega
 ·rintro rfl;simp[Ins.good] at h;omega
 ·rintro rfl;cases u<;>simp[Ins.good] at h<;>simp<;>omega
namespace Ins
def decF (w:Int):Ins:=
 if w / 1073741824=0 then ⟨0,decide (w / 536870912 % 2=1),decide (w / 268435456 % 2=1),Get w 24 4,Get w 20 4,w % 16,Get w 16 4,0⟩
 else if w / 1073741824=1 then ⟨1,decide (w / 536870912 % 2=1),decide (w / 268435456 % 2=1),Get w 24 4,Get w 20 4,0,Get w 16 4,w % 65536⟩
 else if w / 1073741824=2 then ⟨2,decide (w / 536870912 % 2=1),decide (w / 268435456 % 2=1),Get w 24 4,Get w 20 4,0,0,Extend w 20⟩
 else if w / 536870912 % 2=1 then ⟨3,true,decide (w / 268435456 % 2=1),Get w 24 4,0,0,0,Extend w 24⟩
 else ⟨3,false,decide (w / 268435456 % 2=1),Get w 24 4,0,w % 16,0,0⟩
def isIns (w:Int):Bool:=(decF w).good && ((decF w).enc==w)
def dec (w:Int):Ins:=if isIns w=true then decF w else zero
def derr (w:Int):Int:=if isIns w=true then 0 else 20
def E (x:Ins):Int:=if x.good=true then x.enc else 0
def eerr (x:Ins):Int:=if x.good=true then 0 else 20
end Ins
theorem and_1 (x:Int) (h:0≤x) (h':x<4294967296):bits .and .u32 x 1=x % 2:=by
 have:=and_mask x 1 h h' (by omega)
 simpa using this
theorem and_15 (x:Int) (h:0≤x) (h':x<4294967296):bits .and .u32 x 15=x % 16:=by
 have:=and_mask x 4 h h' (by omega)
 simpa using this
theorem extend_bd (v n:Int):-2147483648≤Extend v n∧Extend v n<2147483648:=by
 cases hm:few n
 ·simp[Extend,hm]
 ·have hi:=(few_iff n).1 hm
  rw[Extend,if_pos hm]
  have h1:=Int.emod_nonneg (v+2 ^ (n.toNat-1)) (show (2:Int) ^ n.toNat≠0 by have:=pow_pos n.toNat;omega)
  have h2:=Int.emod_lt_of_pos (v+2 ^ (n.toNat-1)) (pow_pos n.toNat)
  have hr:(2:Int) ^ n.toNat=2 ^ (n.toNat-1)*2:=by rw[← Int.pow_succ];congr 1;omega
  have h3:(2:Int) ^ (n.toNat-1)≤2 ^ 31:=pow_mono (by omega)
  generalize (v+2 ^ (n.toNat-1)) % 2 ^ n.toNat=k at *
  generalize (2:Int) ^ (n.toNat-1)=q at *
  omega
theorem Ins.decF_fits (w:Int) (h:0≤w) (h':w<4294967296):(Ins.decF w).fits:=by
 have a1:=get_bd w 24 4 h h'
 have a2:=get_bd w 20 4 h h'
 have a3:=get_bd w 16 4 h h'
 have e1:=extend_bd w 20
 have e2:=extend_bd w 24
 unfold Ins.decF
 split
 ·refine⟨?_,?_,?_,?_,?_,?_,?_,?_,?_,?_,?_,?_⟩<;>simp only<;>omega
 split
 ·refine⟨?_,?_,?_,?_,?_,?_,?_,?_,?_,?_,?_,?_⟩<;>simp only<;>omega
 split
 ·refine⟨?_,?_,?_,?_,?_,?_,?_,?_,?_,?_,?_,?_⟩<;>simp only<;>omega
 split
 ·refine⟨?_,?_,?_,?_,?_,?_,?_,?_,?_,?_,?_,?_⟩<;>simp only<;>omega
 ·refine⟨?_,?_,?_,?_,?_,?_,?_,?_,?_,?_,?_,?_⟩<;>simp only<;>omega
theorem Ins.enc_bd (x:Ins) (h:x.good=true):0≤x.enc∧x.enc<4294967296:=by
 have hr:=Ins.good_range _ h
 obtain⟨form,u,v,a,b,c,op,im⟩:=x
 have bu:=Ins.bit_bd u
 have bv:=Ins.bit_bd v
 simp only at hr
 rw[enc_ref]
 have h4:form=0∨form=1∨form=2∨form=3:=by omega
 rcases h4 with rfl | rfl | rfl | rfl
 ·have hi:=Ins.good_im0 u v a b c op im h
  simp;omega
 ·have hi:=Ins.good_im1 u v a b c op im h
  have hj:=Ins.good_ci 1 u v a b c op im h
  simp at hj
  simp;omega
 ·simp;omega
 ·have hj:=Ins.good_ci 3 u v a b c op im h
  cases u<;>simp at hj<;>simp<;>omega
theorem Ins.E_bd (x:Ins):0≤x.E∧x.E<4294967296:=by
 cases h:x.good
 ·simp[Ins.E,h]
 ·rw[Ins.E,if_pos h];exact Ins.enc_bd x h
theorem Ins.dec_good (w:Int) (h:Ins.derr w=0):(Ins.dec w).good=true∧(Ins.dec w).enc=w:=by
 have hi:Ins.isIns w=true:=by
  cases hi:Ins.isIns w
  ·rw[Ins.derr,hi] at h;simp at h
  ·rfl
 rw[Ins.dec,if_pos hi]
 simp only[Ins.isIns,Bool.and_eq_true,beq_iff_eq] at hi
 exact hi
theorem Ins.dec_none (w:Int) (h:Ins.derr w≠0):Ins.dec w=Ins.zero∧Ins.derr w=20:=by
 cases hi:Ins.isIns w
 ·rw[Ins.dec,Ins.derr,hi];exact⟨rfl,rfl⟩
 ·rw[Ins.derr,hi] at h;simp at h
theorem Ins.jump_good (link:Bool) (k im:Int) (k0:0≤k) (k1:k<16):Ins.good ⟨3,true,link,k,0,0,0,im⟩=decide (-8388608≤im∧im<8388608):=by
 simp[Ins.good,half4,Ins.inb,fits24];omega
end Go.Proofs.YtceflhffilldeaaGreat
namespace Go.Proofs.YtceflhffilldeaaGreat
open Go.RowKit Bw
namespace Fx
def go (code:List Int):Nat→List Int→Int→Option (List Int)
 | 0,_,_=>none
 | n+1,acc,p=>
  if p<0∨(code.length:Int)-1≤p∨(0<acc.length∧acc.getD (acc.length-1) 0-2<p) then none
  else if isLink (code.getD p.toNat 0)=true then
   if back (code.getD p.toNat 0)=0 then some (acc++[p]) else go code n (acc++[p]) (p-back (code.getD p.toNat 0))
  else none
def chain (code:List Int) (head:Int):Option (List Int):=if head=-1 then some [] else go code (head.toNat+1) [] head
theorem go_none (code:List Int) (n:Nat) (acc:List Int) (p:Int) (h:p<0∨(code.length:Int)-1≤p∨(0<acc.length∧acc.getD (acc.length-1) 0-2<p)):go code n acc p=none:=by
 cases n with
 | zero=>rfl
 | succ n=>rw[go,if_pos h]
theorem go_no (code:List Int) (n:Nat) (acc:List Int) (p:Int) (h:isLink (code.getD p.toNat 0)=false):go code n acc p=none:=by
 cases n with
 | zero=>rfl
 | succ n=>rw[go,if_neg (c:=isLink _=true) (by rw[h];decide)];split<;>rfl
theorem go_end (code:List Int) (n:Nat) (acc:List Int) (p:Int) (hn:p<n) (h:¬ (p<0∨(code.length:Int)-1≤p∨(0<acc.length∧acc.getD (acc.length-1) 0-2<p)))
  (h1:isLink (code.getD p.toNat 0)=true) (h2:back (code.getD p.toNat 0)=0):go code n acc p=some (acc++[p]):=by
 cases n with
 | zero=>exact absurd (Or.inl (by omega)) h
 | succ n=>rw[go,if_neg h,if_pos h1,if_pos h2]
theorem go_on (code:List Int) (n:Nat) (acc:List Int) (p:Int) (hn:p<n) (h:¬ (p<0∨(code.length:Int)-1≤p∨(0<acc.length∧acc.getD (acc.length-1) 0-2<p)))
  (h1:isLink (code.getD p.toNat 0)=true) (h2:back (code.getD p.toNat 0)≠0):∃ m,n=m+1∧go code n acc p=go code m (acc++[p]) (p-back (code.getD p.toNat 0)):=by
 cases n with
 | zero=>exact absurd (Or.inl (by omega)) h
 | succ n=>exact⟨n,rfl,by rw[go,if_neg h,if_pos h1,if_neg h2]⟩
theorem back_bd (w:Int):0≤back w∧back w<16384:=by unfold back;split<;>omega
def Good (code:List Int) (l:List Int):Prop:=∀ i,i<l.length→0≤l.getD i 0∧l.getD i 0+2*i+2≤code.length∧isLink (code.getD (l.getD i 0).toNat 0)=true∧∀ j,j<i→l.getD i 0+2≤l.getD j 0
theorem good_nil (code:List Int):Good code []:=fun i hi=>absurd hi (by simp)
theorem getD_app (l:List Int) (p:Int) (i:Nat):(l++[p]).getD i 0=if i<l.length then l.getD i 0 else if i=l.length then p else 0:=by
 simp only[List.getD_eq_getElem?_getD,List.getElem?_append]
 split
 ·rfl
 ·rename_i h
  by_cases e:i=l.length
  ·subst e;simp
  ·rw[if_neg e,List.getElem?_eq_none (by simp;omega)];rfl
theorem good_snoc {code l:List Int} {p:Int} (hl:Good code l) (h:¬ (p<0∨(code.length:Int)-1≤p∨(0<l.length∧l.getD (l.length-1) 0-2<p)))
  (h1:isLink (code.getD p.toNat 0)=true):Good code (l++[p]):=by
 have hp:0≤p∧p<(code.length:Int)-1∧(0<l.length→p≤l.getD (l.length-1) 0-2):=by
  refine⟨by omega,by omega,fun hl=>by omega⟩
 obtain⟨h3,h4,h5⟩:=hp
 intro i hi
 have hi':i<l.length+1:=by simpa using hi
 rw[getD_app]
 by_cases e:i<l.length
 ·rw[if_pos e]
  obtain⟨a1,a2,a3,a4⟩:=hl i e
  refine⟨a1,a2,a3,fun j hj=>?_⟩
  rw[getD_app,if_pos (by omega)]
  exact a4 j hj
 ·have e2:i=l.length:=by omega
  subst e2
  rw[if_neg e,if_pos rfl]
  rcases Nat.eq_zero_or_pos l.length with hz | hz
  ·refine⟨h3,by omega,h1,fun j hj=>by omega⟩
  ·obtain⟨a1,a2,a3,a4⟩:=hl (l.length-1) (by omega)
   have h6:=h5 hz
   refine⟨h3,by omega,h1,fun j hj=>?_⟩
   rw[getD_app,if_pos hj]
   rcases Nat.lt_or_ge j (l.length-1) with hlt | hge
   ·have:=a4 j hlt;omega
   ·have:j=l.length-1:=by omega
    subst this;omega
theorem Good.len {code l:List Int} (h:Good code l):2*l.length≤code.length:=by
 rcases Nat.eq_zero_or_pos l.length with hz | hz
 ·omega
 ·obtain⟨a1,a2,-,-⟩:=h (l.length-1) (by omega)
  omega
theorem go_good (code:List Int):∀ (n:Nat) (acc:List Int) (p:Int) (l:List Int),Good code acc→go code n acc p=some l→Good code l
 | 0,acc,p,l,_,h=>by cases h
 | n+1,acc,p,l,ha,h=>by
  rw[go] at h
  split at h
  ·cases h
  ·rename_i hc
   split at h
   ·rename_i h1
    split at h
    ·injection h with h;subst h;exact good_snoc ha hc h1
    ·exact go_good code n _ _ l (good_snoc ha hc h1) h
   ·cases h
theorem chain_good {code:List Int} {head:Int} {l:List Int} (h:chain code head=some l):Good code l:=by
 unfold chain at h
 split at h
 ·injection h with h;subst h;exact good_nil code
 ·exact go_good code _ _ _ l (good_nil code) h
def ins1 (w p to:Int):Ins:=if sort w=0 then ⟨3,true,true,7,0,0,0,to-p-1⟩ else ⟨1,true,false,reg w,0,0,0,4*to / 65536⟩
def ins2 (w to:Int):Ins:=if sort w=0 then Ins.zero else ⟨1,false,false,reg w,reg w,0,6,4*to % 65536⟩
def okTo (to:Int):Bool:=decide (0≤to∧to<65536)
def fills (code:List Int) (at_:Int) (V:Int→Int→Int→Int) (H:Int→Int→Int→Bool):List Int→List Int→Option (List Int)
 | [],out=>some out
 | p::l,out=>
  let w:=code.getD p.toNat 0
  let v:=code.getD (p.toNat+1) 0
  if H (sort w) (mod w) v=true∧okTo (V (sort w) (mod w) v)=true then
   fills code at_ V H l ((out.set p.toNat (ins1 w (at_+p) (V (sort w) (mod w) v)).E).set (p.toNat+1) (ins2 w (V (sort w) (mod w) v)).E)
  else none
def mayAt (n:Nat) (at_:Int):Bool:=decide (0≤at_∧at_≤65536∧(n:Int)≤65536-at_)
def fill (code:List Int) (head at_:Int) (V:Int→Int→Int→Int) (H:Int→Int→Int→Bool):Option (List Int):=
 match chain code head with
 | none=>none
 | some l=>if mayAt code.length at_=true then fills code at_ V H l code else none
theorem reg_bd (w:Int) (h:0≤w∧w<4294967296):0≤reg w∧reg w<16:=by unfold reg;split<;>omega
theorem sort_bd (w:Int):0≤sort w∧sort w<4:=by unfold sort;split<;>omega
theorem mod_bd (w:Int):0≤mod w∧mod w<64:=by unfold mod;split<;>omega
theorem ins1_good (w p to:Int) (h:0≤w∧w<4294967296) (h1:okTo to=true) (h2:0≤p∧p≤131072):(ins1 w p to).good=true:=by
 have:=reg_bd w h
 have h1:0≤to∧to<65536:=by simpa [okTo] using h1
 unfold ins1
 split
 ·rw[Ins.jump_good true 7 _ (by omega) (by omega),decide_eq_true_eq];omega
 ·simp[Ins.good,half4,half16,Ins.inb,Ins.uop];omega
theorem ins2_good (w to:Int) (h:0≤w∧w<4294967296) (h1:okTo to=true):(ins2 w to).good=true:=by
 have:=reg_bd w h
 have h1:0≤to∧to<65536:=by simpa [okTo] using h1
 unfold ins2
 split
 ·decide
 ·simp[Ins.good,half4,half16,Ins.inb,Ins.uop];omega
end Fx
end Go.Proofs.YtceflhffilldeaaGreat
namespace Go.Proofs.YtceflhffilldeaaGreat
open Go.RowKit Bw
namespace Boot
def hi (e:Int):Ins:=⟨1,true,false,14,0,0,0,e⟩
def lo (e:Int):Ins:=⟨1,false,false,14,14,0,6,e⟩
def call (d:Int):Ins:=⟨3,true,true,7,0,0,0,d⟩
def fin:List Ins:=[⟨1,true,false,1,0,0,0,65535⟩,⟨1,false,false,1,1,0,8,65472⟩,⟨2,true,false,0,1,0,0,0⟩]
def calls (es:List Int) (k:Nat):List Ins:=(List.range k).map fun i=>call (es.getD i 0-(10+i)-1)
def ins (size:Int) (es:List Int) (k:Nat):List Ins:=[hi (4*size / 65536),lo (4*size % 65536)]++calls es k
def zeros:List Int:=[0,0,0,0,0,0,0,0]
def words (size:Int) (es:List Int):List Int:=zeros++(ins size es es.length++fin).map Ins.E
def sized (size:Int) (es:List Int):Bool:=decide (256≤size∧size≤65536) && decide (es.length≤16)
def inside (size:Int) (es:List Int):Bool:=decide (∀ i,i<es.length→0≤es.getD i 0∧es.getD i 0<size)
def ok (size:Int) (es:List Int):Bool:=sized size es && inside size es
def first (mods:Int):Int:=if 0≤mods∧mods≤16 then 13+mods else 0
theorem calls_succ (es:List Int) (k:Nat):calls es (k+1)=calls es k++[call (es.getD k 0-(10+k)-1)]:=by
 simp[calls,List.range_succ]
theorem calls_len (es:List Int) (k:Nat):(calls es k).length=k:=by simp[calls]
theorem ins_succ (size:Int) (es:List Int) (k:Nat):ins size es (k+1)=ins size es k++[call (es.getD k 0-(10+k)-1)]:=by
 rw[ins,ins,calls_succ,List.append_assoc]
theorem ins_len (size:Int) (es:List Int) (k:Nat):(ins size es k).length=k+2:=by simp[ins,calls_len]
theorem words_len (size:Int) (es:List Int):(words size es).length=es.length+13:=by simp[words,zeros,ins_len,fin]
end Boot
end Go.Proofs.YtceflhffilldeaaGreat
