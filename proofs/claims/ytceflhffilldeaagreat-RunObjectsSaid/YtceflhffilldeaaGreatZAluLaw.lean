/-
  Joined: ZAluLaw.
-/
import Derived.Test.YtceflhffilldeaaGreatZLaw
set_option linter.unusedVariables false
set_option linter.unusedSimpArgs false
set_option maxRecDepth 100000
set_option maxHeartbeats 16000000
namespace Go.Proofs.YtceflhffilldeaaGreat
open Go.RowKit Bw
structure Fl where
 n:Bool
 z:Bool
 c:Bool
 v:Bool
 deriving DecidableEq
namespace Fl
def cells (f:Fl):Array Value:=#[.bool f.n,.bool f.z,.bool f.c,.bool f.v]
def val (f:Fl):Value:=.agg f.cells
def zero:Fl:=⟨false,false,false,false⟩
end Fl
namespace Alu
def okOp (op:Int) (u:Bool):Bool:=decide (0≤op∧op≤11) && (!u || decide (op=0∨8≤op∧op≤10))
def carry (u:Bool) (f:Fl):Int:=if (u && f.c)=true then 1 else 0
def prod (u:Bool) (b n:Int):Int:=if u=true then b*n else wrap32 b*wrap32 n
def out (x:Int):Bool:=decide (x < -2147483648∨2147483648≤x)
def R (op:Int) (u:Bool) (b n h:Int) (f:Fl):Int:=
 if op=0 then (if u=true then h else n)
 else if op=1 then Lsl b n
 else if op=2 then Asr b n
 else if op=3 then Ror b n
 else if op=4 then bits .and .u32 b n
 else if op=5 then bits .andNot .u32 b n
 else if op=6 then bits .or .u32 b n
 else if op=7 then bits .xor .u32 b n
 else if op=8 then (b+n+carry u f) % 4294967296
 else if op=9 then (b-n-carry u f) % 4294967296
 else if op=10 then prod u b n % 4294967296
 else (if 0<wrap32 n then wrap32 b / wrap32 n % 4294967296 else 0)
def H (op:Int) (u:Bool) (b n h:Int):Int:=
 if op=10 then prod u b n / 4294967296 % 4294967296
 else if op=11 then (if 0<wrap32 n then wrap32 b % wrap32 n else b)
 else h
def C (op:Int) (u:Bool) (b n:Int) (f:Fl):Bool:=
 if op=8 then decide (4294967296≤b+n+carry u f) else if op=9 then decide (b-n-carry u f<0) else f.c
def V (op:Int) (u:Bool) (b n:Int) (f:Fl):Bool:=
 if op=8 then out (wrap32 b+wrap32 n+carry u f) else if op=9 then out (wrap32 b-wrap32 n-carry u f) else f.v
def F (op:Int) (u:Bool) (b n h:Int) (f:Fl):Fl:=
 ⟨decide (2147483648≤R op u b n h f),decide (R op u b n h f=0),C op u b n f,V op u b n f⟩
end Alu
theorem wrap32_bd (b:Int):-2147483648≤wrap32 b∧wrap32 b<2147483648:=by unfold wrap32;omega
theorem out_eq (x:Int) (hx:-9223372036854775808≤x) (hx':x≤9223372036854775807):(x != wrap64 (wrap32 x))=Alu.out x:=by
 rw[Bool.eq_iff_iff,bne_iff_ne,Alu.out,decide_eq_true_eq]
 unfold wrap64 wrap32;omega
theorem mul_bd (x y:Int) (hx:-2147483648≤x∧x<2147483648) (hy:-2147483648≤y∧y<2147483648):-4611686018427387904≤x*y∧x*y≤4611686018427387904:=by
 have h1:x*y≤(x*y).natAbs:=Int.le_natAbs
 have h2:-(x*y)≤(x*y).natAbs:=by omega
 have h3:(x*y).natAbs≤2147483648*2147483648:=by rw[Int.natAbs_mul];exact Nat.mul_le_mul (by omega) (by omega)
 omega
theorem low_word (p:Int):IntKind.u64.wrap p % 4294967296=p % 4294967296:=by rw[wrapU64_emod];omega
theorem high_word (p:Int):IntKind.u64.wrap p / 4294967296 % 4294967296=p / 4294967296 % 4294967296:=by rw[wrapU64_emod];omega
theorem quo_pos (x y:Int) (hy:0<y) (h:0≤x.tmod y):x.tdiv y=x / y∧x.tmod y=x % y:=by
 have h1:=Int.mul_tdiv_add_tmod x y
 have h2:=Int.tmod_lt_of_pos x hy
 have h3:=(Int.ediv_emod_unique (a:=x) (b:=y) (r:=x.tmod y) (q:=x.tdiv y) hy).2 ⟨by omega,h,h2⟩
 exact⟨h3.1.symm,h3.2.symm⟩
theorem quo_neg (x y:Int) (hy:0<y) (h:x.tmod y<0):x.tdiv y-1=x / y∧x.tmod y+y=x % y:=by
 have h1:=Int.mul_tdiv_add_tmod x y
 have h2:-y<x.tmod y:=Int.lt_tmod_of_pos x hy
 have h3:=(Int.ediv_emod_unique (a:=x) (b:=y) (r:=x.tmod y+y) (q:=x.tdiv y-1) hy).2 ⟨by rw[Int.mul_sub];omega,by omega,by omega⟩
 exact⟨h3.1.symm,h3.2.symm⟩
theorem ediv_bd (x y:Int) (hx:-2147483648≤x∧x<2147483648) (hy:0<y):-2147483648≤x / y∧x / y<2147483648:=by
 constructor
 ·rw[Int.le_ediv_iff_mul_le hy]
  have:=Int.mul_le_mul_of_nonneg_left (show (1:Int)≤y by omega) (show (0:Int)≤2147483648 by decide)
  omega
 ·refine Int.ediv_lt_of_lt_mul hy ?_
  have:=Int.mul_le_mul_of_nonneg_left (show (1:Int)≤y by omega) (show (0:Int)≤2147483648 by decide)
  omega
theorem tdiv_bd (x y:Int) (hx:-2147483648≤x∧x<2147483648) (hy:0<y):-2147483648≤x.tdiv y∧x.tdiv y≤2147483648:=by
 by_cases h:0≤x.tmod y
 ·have:=(quo_pos x y hy h).1
  have:=ediv_bd x y hx hy
  omega
 ·have:=(quo_neg x y hy (by omega)).1
  have:=ediv_bd x y hx hy
  omega
theorem tmod_bd (x y:Int) (hy:0<y):-y<x.tmod y∧x.tmod y<y:=by
 exact⟨Int.lt_tmod_of_pos x hy,Int.tmod_lt_of_pos x hy⟩
theorem bits_bd (op:BinOp) (x y:Int):0≤bits op .u32 x y∧bits op .u32 x y<4294967296:=by
 have h:bits op .u32 x y=bits op .u32 x y % 4294967296:=by
  unfold bits;simp[IntKind.wrap,IntKind.bits,IntKind.signed]
 omega
theorem lsl_bd (x n:Int):0≤Lsl x n∧Lsl x n<4294967296:=by unfold Lsl;omega
theorem asr_bd (x n:Int):0≤Asr x n∧Asr x n<4294967296:=by unfold Asr;omega
theorem ite_bd {c:Prop} [Decidable c] {a b:Int} (ha:0≤a∧a<4294967296) (hb:0≤b∧b<4294967296):0≤(if c then a else b)∧(if c then a else b)<4294967296:=by
 by_cases h:c
 ·rw[if_pos h];exact ha
 ·rw[if_neg h];exact hb
theorem Alu.R_bd (op:Int) (u:Bool) (b n h:Int) (f:Fl) (hb:0≤b) (hb':b<4294967296) (hn:0≤n) (hn':n<4294967296) (hh:0≤h) (hh':h<4294967296) :
  0≤Alu.R op u b n h f∧Alu.R op u b n h f<4294967296:=by
 unfold Alu.R
 refine ite_bd (ite_bd ⟨hh,hh'⟩ ⟨hn,hn'⟩) (ite_bd (lsl_bd b n) (ite_bd (asr_bd b n) (ite_bd (ror_bd b (n % 32).toNat hb hb' (by omega)) (ite_bd (bits_bd _ _ _) (ite_bd (bits_bd _ _ _) (ite_bd (bits_bd _ _ _) (ite_bd (bits_bd _ _ _) (ite_bd (by omega) (ite_bd (by omega) (ite_bd (by omega) (ite_bd (by omega) (by omega))))))))))))
theorem Alu.H_bd (op:Int) (u:Bool) (b n h:Int) (hb:0≤b) (hb':b<4294967296) (hh:0≤h) (hh':h<4294967296):0≤Alu.H op u b n h∧Alu.H op u b n h<4294967296:=by
 unfold Alu.H
 split
 ·omega
 split
 ·split
  ·rename_i hn
   have h1:=Int.emod_nonneg (wrap32 b) (show wrap32 n≠0 by omega)
   have h2:=Int.emod_lt_of_pos (wrap32 b) hn
   have h3:=wrap32_bd n
   omega
  ·omega
 ·omega
def Alu.base (k:Int) (f:Fl):Bool:=
 if k=0 then f.n else if k=1 then f.z else if k=2 then f.c else if k=3 then f.v else if k=4 then f.c || f.z else if k=5 then f.n != f.v else if k=6 then (f.n != f.v) || f.z else true
def Alu.holds (c:Int) (f:Fl):Bool:=decide (0≤c∧c≤15) && (Alu.base (c % 8) f==decide (c<8))
theorem Alu.holds_out (c:Int) (f:Fl) (h:c<0∨15<c):Alu.holds c f=false:=by
 rw[Alu.holds,show decide (0≤c∧c≤15)=false by simp;omega,Bool.false_and]
end Go.Proofs.YtceflhffilldeaaGreat
namespace Go.Proofs.YtceflhffilldeaaGreat
open Go.RowKit Bw
structure Mc where
 r:List Int
 h:Int
 f:Fl
 pc:Int
 mem:List Int
 inp:ByteArray
 read:Nat
 out:List Int
 en:Int
 trap:Int
namespace Mc
def reg (m:Mc) (a:Int):Int:=m.r.getD a.toNat 0
def sets (m:Mc) (a v:Int):Mc:={ m with r:=m.r.set a.toNat v,f:=⟨decide (2147483648≤v),decide (v=0),m.f.c,m.f.v⟩ }
def packed (f:Fl):Int:=(if f.n then 2147483648 else 0)+(if f.z then 1073741824 else 0)+(if f.c then 536870912 else 0)+(if f.v then 268435456 else 0)
def opnd (m:Mc) (x:Ins):Int:=if x.form=1 then x.im % 65536+(if x.v then 4294901760 else 0) else m.reg x.c
def reckons (m:Mc) (x:Ins):Mc:=
 if x.op=0∧x.u=true∧x.form=1 then m.sets x.a (x.im*65536 % 4294967296)
 else if x.op=0∧x.u=true∧x.v=true then m.sets x.a (packed m.f)
 else { m with r:=m.r.set x.a.toNat (Alu.R x.op x.u (m.reg x.b) (m.opnd x) m.h m.f),h:=Alu.H x.op x.u (m.reg x.b) (m.opnd x) m.h,f:=Alu.F x.op x.u (m.reg x.b) (m.opnd x) m.h m.f }
def size (m:Mc):Int:=m.mem.length
def there (m:Mc) (at_:Int):Bool:=decide (at_ / 4<m.size)
def word (m:Mc) (at_:Int):Int:=m.mem.getD (at_ / 4).toNat 0
def part (w at_:Int):Int:=w / 2 ^ (8*(at_ % 4)).toNat % 256
def turned (w at_ v:Int):Int:=w-part w at_*2 ^ (8*(at_ % 4)).toNat+v % 256*2 ^ (8*(at_ % 4)).toNat
def loadOk (m:Mc) (at_:Int) (small:Bool):Bool:=(small || at_ % 4==0) && m.there at_
def loadV (m:Mc) (at_:Int) (small:Bool):Int:=if small then part (m.word at_) at_ else m.word at_
def inByte (m:Mc):Int:=if m.read<m.inp.size then ((m.inp.data.getD m.read 0).toNat:Int) else 0
def loads (m:Mc) (a at_:Int) (small:Bool):Mc:=
 if at_=4294967240 then (if m.read<m.inp.size then ({ m with read:=m.read+1 }:Mc).sets a m.inByte else m.sets a 0)
 else if at_=4294967244 then m.sets a (if m.read<m.inp.size then 1 else 0)
 else if m.loadOk at_ small=true then m.sets a (m.loadV at_ small)
 else { m with en:=5 }
def stores (m:Mc) (at_ v:Int) (small:Bool):Mc:=
 if at_=4294967240 then (if m.out.length=4096 then { m with en:=6 } else { m with out:=m.out++[v % 256] })
 else if at_=4294967236 then { m with en:=2,trap:=wrap32 v }
 else if at_=4294967232 then { m with en:=1 }
 else if m.loadOk at_ small=true then { m with mem:=m.mem.set (at_ / 4).toNat (if small then turned (m.word at_) at_ v else v) }
 else { m with en:=5 }
def moves (m:Mc) (x:Ins):Mc:=
 if x.u=true then m.stores ((m.reg x.b+x.im) % 4294967296) (m.reg x.a) x.v else m.loads x.a ((m.reg x.b+x.im) % 4294967296) x.v
def jumps (m:Mc) (x:Ins):Mc:=
 if Alu.holds x.a m.f=true then
  { m with pc:=if x.u=true then (m.pc+x.im) % 1073741824 else m.reg x.c / 4,r:=if x.v=true then m.r.set 15 (m.pc*4 % 4294967296) else m.r }
 else m
def does (m:Mc) (x:Ins):Mc:=if x.form=2 then m.moves x else if x.form=3 then m.jumps x else m.reckons x
def step (m:Mc):Mc:=
 if m.pc<m.size then
  let w:=m.mem.getD m.pc.toNat 0
  if Ins.derr w=0 then ({ m with pc:=m.pc+1 }:Mc).does (Ins.dec w) else { m with en:=4 }
 else { m with en:=5 }
def run (m:Mc):Nat→Mc
 | 0=>m
 | n+1=>if m.en=0 then m.step.run n else m
def steps (m:Mc):Nat→Nat
 | 0=>0
 | n+1=>if m.en=0 then m.step.steps n+1 else 0
def W32 (x:Int):Prop:=0≤x∧x<4294967296
structure Ok (m:Mc):Prop where
 r:m.r.length=16
 rb:∀ x∈m.r,W32 x
 h:W32 m.h
 pc:0≤m.pc∧m.pc≤1073741824
 ml:m.mem.length≤65536
 mb:∀ x∈m.mem,W32 x
 il:m.inp.size≤4096
 rd:m.read≤m.inp.size
 ol:m.out.length≤4096
 ob:∀ x∈m.out,0≤x∧x<256
theorem Ok.reg {m:Mc} (h:m.Ok) (a:Int):W32 (m.reg a):=by
 unfold Mc.reg
 by_cases hl:a.toNat<m.r.length
 ·rw[List.getD_eq_getElem?_getD,List.getElem?_eq_getElem hl];exact h.rb _ (List.getElem_mem hl)
 ·rw[List.getD_eq_getElem?_getD,List.getElem?_eq_none (by omega)];simp[W32]
theorem Ok.word {m:Mc} (h:m.Ok) (k:Nat):W32 (m.mem.getD k 0):=by
 by_cases hl:k<m.mem.length
 ·rw[List.getD_eq_getElem?_getD,List.getElem?_eq_getElem hl];exact h.mb _ (List.getElem_mem hl)
 ·rw[List.getD_eq_getElem?_getD,List.getElem?_eq_none (by omega)];simp[W32]
theorem set_all {P:Int→Prop} {l:List Int} {k:Nat} {v:Int} (h:∀ x∈l,P x) (hv:P v):∀ x∈l.set k v,P x:=by
 intro x hx
 rcases List.mem_or_eq_of_mem_set hx with h1 | rfl
 ·exact h x h1
 ·exact hv
theorem Ok.sets {m:Mc} (h:m.Ok) (a v:Int) (hv:W32 v):(m.sets a v).Ok:=
 ⟨by simp[Mc.sets,h.r],set_all h.rb hv,h.h,h.pc,h.ml,h.mb,h.il,h.rd,h.ol,h.ob⟩
theorem packed_bd (f:Fl):W32 (packed f):=by
 obtain⟨n,z,c,v⟩:=f
 cases n<;>cases z<;>cases c<;>cases v<;>simp[packed,W32]
theorem opnd_bd {m:Mc} (h:m.Ok) (x:Ins):W32 (m.opnd x):=by
 unfold opnd
 split
 ·unfold W32;split<;>omega
 ·exact h.reg _
theorem Ok.reckons {m:Mc} (h:m.Ok) (x:Ins):(m.reckons x).Ok:=by
 unfold Mc.reckons
 split
 ·exact h.sets _ _ (by unfold W32;omega)
 split
 ·exact h.sets _ _ (packed_bd _)
 have hb:=h.reg x.b
 have hn:=opnd_bd h x
 have hh:=h.h
 exact⟨by simp[h.r],set_all h.rb (Alu.R_bd _ _ _ _ _ _ hb.1 hb.2 hn.1 hn.2 hh.1 hh.2),Alu.H_bd _ _ _ _ _ hb.1 hb.2 hh.1 hh.2,h.pc,h.ml,h.mb,h.il,h.rd,h.ol,h.ob⟩
theorem part_bd (w at_:Int):0≤part w at_∧part w at_<256:=by unfold part;omega
theorem turned_bd (w at_ v:Int) (hw:W32 w):W32 (turned w at_ v):=by
 unfold turned part W32 at *
 have h4:at_ % 4=0∨at_ % 4=1∨at_ % 4=2∨at_ % 4=3:=by omega
 rcases h4 with h | h | h | h<;>rw[h]<;>simp<;>omega
theorem Ok.loads {m:Mc} (h:m.Ok) (a at_:Int) (small:Bool):(m.loads a at_ small).Ok:=by
 have hi:W32 m.inByte:=by
  unfold inByte W32
  split
  ·have:=(m.inp.data.getD m.read 0).toNat_lt;omega
  ·omega
 unfold Mc.loads
 split
 ·split
  ·rename_i h1
   exact Ok.sets (m:={ m with read:=m.read+1 }) ⟨h.r,h.rb,h.h,h.pc,h.ml,h.mb,h.il,h1,h.ol,h.ob⟩ _ _ hi
  ·exact h.sets _ _ (by simp[W32])
 split
 ·exact h.sets _ _ (by split<;>simp[W32])
 split
 ·refine h.sets _ _ ?_
  unfold loadV
  split
  ·have:=part_bd (m.word at_) at_;unfold W32;omega
  ·exact h.word _
 ·exact⟨h.r,h.rb,h.h,h.pc,h.ml,h.mb,h.il,h.rd,h.ol,h.ob⟩
theorem Ok.stores {m:Mc} (h:m.Ok) (at_ v:Int) (small:Bool) (hv:W32 v):(m.stores at_ v small).Ok:=by
 unfold Mc.stores
 split
 ·split
  ·exact⟨h.r,h.rb,h.h,h.pc,h.ml,h.mb,h.il,h.rd,h.ol,h.ob⟩
  ·refine⟨h.r,h.rb,h.h,h.pc,h.ml,h.mb,h.il,h.rd,?_,?_⟩
   ·have:=h.ol;simp;omega
   ·intro x hx
    rcases List.mem_append.1 hx with h1 | h1
    ·exact h.ob x h1
    ·simp at h1;omega
 split
 ·exact⟨h.r,h.rb,h.h,h.pc,h.ml,h.mb,h.il,h.rd,h.ol,h.ob⟩
 split
 ·exact⟨h.r,h.rb,h.h,h.pc,h.ml,h.mb,h.il,h.rd,h.ol,h.ob⟩
 split
 ·refine⟨h.r,h.rb,h.h,h.pc,by simp[h.ml],set_all h.mb ?_,h.il,h.rd,h.ol,h.ob⟩
  split
  ·exact turned_bd _ _ _ (h.word _)
  ·exact hv
 ·exact⟨h.r,h.rb,h.h,h.pc,h.ml,h.mb,h.il,h.rd,h.ol,h.ob⟩
theorem Ok.moves {m:Mc} (h:m.Ok) (x:Ins):(m.moves x).Ok:=by
 unfold Mc.moves
 split
 ·exact h.stores _ _ _ (h.reg _)
 ·exact h.loads _ _ _
theorem Ok.jumps {m:Mc} (h:m.Ok) (x:Ins):(m.jumps x).Ok:=by
 unfold Mc.jumps
 split
 ·refine⟨?_,?_,h.h,?_,h.ml,h.mb,h.il,h.rd,h.ol,h.ob⟩
  ·simp only;split
   ·simp[h.r]
   ·exact h.r
  ·simp only;split
   ·exact set_all h.rb (by unfold W32;omega)
   ·exact h.rb
  ·simp only;split
   ·omega
   ·have:=h.reg x.c;unfold W32 at this;omega
 ·exact h
theorem Ok.does {m:Mc} (h:m.Ok) (x:Ins):(m.does x).Ok:=by
 unfold Mc.does
 split
 ·exact h.moves x
 split
 ·exact h.jumps x
 ·exact h.reckons x
theorem Ok.step {m:Mc} (h:m.Ok):m.step.Ok:=by
 unfold Mc.step
 split
 ·rename_i hlt
  have hl:=h.ml
  simp only[Mc.size] at hlt
  simp only
  split
  ·exact Ok.does (m:={ m with pc:=m.pc+1 }) ⟨h.r,h.rb,h.h,by have:=h.pc;constructor<;>(try simp only)<;>omega,h.ml,h.mb,h.il,h.rd,h.ol,h.ob⟩ _
  ·exact⟨h.r,h.rb,h.h,h.pc,h.ml,h.mb,h.il,h.rd,h.ol,h.ob⟩
 ·exact⟨h.r,h.rb,h.h,h.pc,h.ml,h.mb,h.il,h.rd,h.ol,h.ob⟩
theorem Ok.run {m:Mc} (h:m.Ok) (n:Nat):(m.run n).Ok:=by
 induction n generalizing m with
 | zero=>exact h
 | succ n ih=>
  unfold Mc.run
  split
  ·exact ih h.step
  ·exact h
theorem run_succ (m:Mc) (n:Nat):m.run (n+1)=if (m.run n).en=0 then (m.run n).step else m.run n:=by
 induction n generalizing m with
 | zero=>rfl
 | succ n ih=>
  rw[Mc.run]
  by_cases h:m.en=0
  ·rw[if_pos h,ih]
   rw[show m.run (n+1)=m.step.run n by rw[Mc.run,if_pos h]]
  ·rw[if_neg h]
   rw[show m.run (n+1)=m by rw[Mc.run,if_neg h],if_neg h]
theorem steps_succ (m:Mc) (n:Nat):m.steps (n+1)=if (m.run n).en=0 then m.steps n+1 else m.steps n:=by
 induction n generalizing m with
 | zero=>rfl
 | succ n ih=>
  rw[Mc.steps]
  by_cases h:m.en=0
  ·rw[if_pos h,ih]
   rw[show m.run (n+1)=m.step.run n by rw[Mc.run,if_pos h],show m.steps (n+1)=m.step.steps n+1 by rw[Mc.steps,if_pos h]]
   split<;>rfl
  ·rw[if_neg h]
   rw[show m.run (n+1)=m by rw[Mc.run,if_neg h],if_neg h,show m.steps (n+1)=0 by rw[Mc.steps,if_neg h]]
theorem run_ended (m:Mc) (n:Nat) (h:m.en≠0):m.run n=m∧m.steps n=0:=by
 cases n with
 | zero=>exact⟨rfl,rfl⟩
 | succ n=>exact⟨by rw[Mc.run,if_neg h],by rw[Mc.steps,if_neg h]⟩
theorem run_add (m:Mc) (a b:Nat):m.run (a+b)=(m.run a).run b∧m.steps (a+b)=m.steps a+(m.run a).steps b:=by
 induction a generalizing m with
 | zero=>simp[Mc.run,Mc.steps]
 | succ a ih=>
  rw[show a+1+b=(a+b)+1 by omega,Mc.run,Mc.steps]
  by_cases h:m.en=0
  ·rw[if_pos h,if_pos h,(ih m.step).1,(ih m.step).2,Mc.run,Mc.steps,if_pos h,if_pos h]
   exact⟨rfl,by omega⟩
  ·rw[if_neg h,if_neg h,Mc.run,Mc.steps,if_neg h,if_neg h,(run_ended m b h).1,(run_ended m b h).2]
   exact⟨rfl,rfl⟩
end Mc
end Go.Proofs.YtceflhffilldeaaGreat
namespace Go.Proofs.YtceflhffilldeaaGreat
open Go.RowKit Bw
def haltIns (b:Int):List Ins:=[⟨1,true,false,1,0,0,0,65535⟩,⟨1,false,false,1,1,0,8,65472⟩,⟨1,false,false,0,0,0,0,b⟩,⟨2,true,false,0,1,0,0,8⟩,⟨2,true,false,0,1,0,0,0⟩]
end Go.Proofs.YtceflhffilldeaaGreat
