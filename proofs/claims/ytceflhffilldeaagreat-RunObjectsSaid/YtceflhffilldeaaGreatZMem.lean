/-
  Joined: ZMem.
-/
import Derived.Test.YtceflhffilldeaaGreatProg
import Derived.WalkKit
import Derived.Lib.Hide
import Derived.Test.YtceflhffilldeaaGreatZKept
import Derived.Test.YtceflhffilldeaaGreatZAluLaw
import Derived.Laws.CopyOwn
set_option linter.unusedVariables false
set_option linter.unusedSimpArgs false
set_option maxRecDepth 100000
set_option maxHeartbeats 16000000
namespace Go.Proofs.YtceflhffilldeaaGreat
open Go.RowKit Bw
def MemAt (w:World) (mp ap:Nat) (l:List Int):Prop:=
 Blk w mp 182 #[.slice (some ⟨ap,0,none⟩) l.length l.length]∧Blk w ap 37 (l.map (Value.int .u32)).toArray
theorem MemAt.cell0 {w:World} {mp ap:Nat} {l:List Int} (h:MemAt w mp ap l):w.cell? ⟨mp,0,none⟩=some (.slice (some ⟨ap,0,none⟩) l.length l.length):=h.1.cell 0
theorem MemAt.cell {w:World} {mp ap:Nat} {l:List Int} (h:MemAt w mp ap l) (k:Nat) (hk:k<l.length):w.cell? ⟨ap,k,none⟩=some (.int .u32 (l.getD k 0)):=by
 rw[h.2.cell k];simp[List.getD,hk]
theorem MemAt.kept {S:Nat→Prop} {w w':World} {mp ap:Nat} {l:List Int} (h:MemAt w mp ap l) (hk:Kept S w w') (h1:S mp) (h2:S ap):MemAt w' mp ap l:=⟨h.1.kept hk h1,h.2.kept hk h2⟩
theorem MemAt.drew {w:World} {mp ap:Nat} {l:List Int} (h:MemAt w mp ap l):MemAt w.drew mp ap l:=h
theorem MemAt.ne_ {w:World} {mp ap:Nat} {l:List Int} (h:MemAt w mp ap l):mp≠ap:=h.1.ne_ h.2 (by decide)
theorem MemAt.set_ {w:World} {mp ap:Nat} {l:List Int} (h:MemAt w mp ap l) (k:Nat) (v:Int):MemAt (w.setCell ⟨ap,k,none⟩ (.int .u32 v)) mp ap (l.set k v):=by
 refine⟨?_,?_⟩
 ·have:=h.1.far (p:=⟨ap,k,none⟩) h.ne_ (.int .u32 v)
  simpa using this
 ·have:=h.2.set_ k (.int .u32 v)
  rw[List.map_set]
  simpa using this
theorem mem_size (mp ap:Nat) (l:List Int) (w:World) (h:MemAt w mp ap l):Calls Tryz.prog 95 #[.pointer (some ⟨mp,0,none⟩)] w fun e w'=>e=.returned (.int .i64 l.length)∧w=w':=by
 have c0:=h.cell0
 have h:=zh h
 go_enter Tryz.func95,Tryz.ntmps95
 go_wp2_with fail
 go_ret
 exact⟨rfl,rfl⟩
theorem mem_word (mp ap k:Nat) (at_:Int) (l:List Int) (w:World) (h:MemAt w mp ap l) (hk:at_ / 4=k) (h0:0≤at_) (h1:at_<4294967296) (hl:l.length≤65536) :
  Calls Tryz.prog 124 #[.pointer (some ⟨mp,0,none⟩),.int .u32 at_] w fun e w'=>e=.returned (.pointer (if k<l.length then some ⟨ap,k,none⟩ else none))∧w=w':=by
 have c0:=h.cell0
 have SZ:=zh (mem_size mp ap l w h)
 have h:=zh h
 by_cases hlt:(k:Int)<(l.length:Int)
 ·rw[if_pos (by omega)]
  go_enter Tryz.func124,Tryz.ntmps124
  go_wp2_with (go_at_call 95;refine SZ.out.mono ?_;rintro e w' ⟨rfl,rfl⟩)
  go_ret
  exact⟨by simp,rfl⟩
 ·rw[if_neg (by omega)]
  go_enter Tryz.func124,Tryz.ntmps124
  go_wp2_with (go_at_call 95;refine SZ.out.mono ?_;rintro e w' ⟨rfl,rfl⟩)
  go_ret
  exact⟨rfl,rfl⟩
end Go.Proofs.YtceflhffilldeaaGreat
namespace Go.Proofs.YtceflhffilldeaaGreat
open Go.RowKit Bw
def mcells (m:Mc) (mp:Nat) (ov:Value):Array Value:=
 (m.r.map (Value.int .u32)++[.int .u32 m.h,.bool m.f.n,.bool m.f.z,.bool m.f.c,.bool m.f.v,.int .i64 m.pc,.pointer (some ⟨mp,0,none⟩),.string m.inp,.int .i64 m.read,ov,.int .i64 m.en,.int .i64 m.trap]).toArray
structure Mach (w:World) (p mp ap:Nat) (ov:Value) (m:Mc):Prop where
 ok:m.Ok
 blk:Blk w p 146 (mcells m mp ov)
 mem:MemAt w mp ap m.mem
 out:w.ownsRow 0 5 1 ov m.out.length (m.out.map (Value.int .u8))
def Free (S:Nat→Prop) (p ap:Nat) (ov:Value):Prop:=¬ S p∧¬ S ap∧∀ b,ov.ownBlock=some b→¬ S b
theorem mcells_reg {m:Mc} (h:m.Ok) (mp:Nat) (ov:Value) (a:Nat) (ha:a<16):(mcells m mp ov)[a]?=some (.int .u32 (m.r.getD a 0)):=by
 have hr:=h.r
 simp[mcells,List.getElem?_append,hr,ha,List.getD]
theorem mcells_tail {m:Mc} (h:m.Ok) (mp:Nat) (ov:Value) (k:Nat):(mcells m mp ov)[16+k]?=([Value.int .u32 m.h,.bool m.f.n,.bool m.f.z,.bool m.f.c,.bool m.f.v,.int .i64 m.pc,.pointer (some ⟨mp,0,none⟩),.string m.inp,.int .i64 m.read,ov,.int .i64 m.en,.int .i64 m.trap])[k]?:=by
 have hr:=h.r
 unfold mcells
 rw[List.getElem?_toArray,List.getElem?_append_right (by simp[hr])]
 simp[hr]
section
variable {w:World} {p mp ap:Nat} {ov:Value} {m:Mc}
theorem Mach.reg (h:Mach w p mp ap ov m) (a:Nat) (ha:a<16):w.cell? ⟨p,a,none⟩=some (.int .u32 (m.r.getD a 0)):=(h.blk.cell a).trans (mcells_reg h.ok mp ov a ha)
theorem Mach.tail (h:Mach w p mp ap ov m) (k:Nat):w.cell? ⟨p,16+k,none⟩=([Value.int .u32 m.h,.bool m.f.n,.bool m.f.z,.bool m.f.c,.bool m.f.v,.int .i64 m.pc,.pointer (some ⟨mp,0,none⟩),.string m.inp,.int .i64 m.read,ov,.int .i64 m.en,.int .i64 m.trap])[k]?:=(h.blk.cell _).trans (mcells_tail h.ok mp ov k)
theorem Mach.froz (h:Mach w p mp ap ov m) (a:Nat):w.frozen? ⟨p,a,none⟩=false:=h.blk.frozen a
theorem Mach.h_ (h:Mach w p mp ap ov m):w.cell? ⟨p,16,none⟩=some (.int .u32 m.h):=h.tail 0
theorem Mach.fn (h:Mach w p mp ap ov m):w.cell? ⟨p,17,none⟩=some (.bool m.f.n):=h.tail 1
theorem Mach.fz (h:Mach w p mp ap ov m):w.cell? ⟨p,18,none⟩=some (.bool m.f.z):=h.tail 2
theorem Mach.fc (h:Mach w p mp ap ov m):w.cell? ⟨p,19,none⟩=some (.bool m.f.c):=h.tail 3
theorem Mach.fv (h:Mach w p mp ap ov m):w.cell? ⟨p,20,none⟩=some (.bool m.f.v):=h.tail 4
theorem Mach.pc_ (h:Mach w p mp ap ov m):w.cell? ⟨p,21,none⟩=some (.int .i64 m.pc):=h.tail 5
theorem Mach.mem_ (h:Mach w p mp ap ov m):w.cell? ⟨p,22,none⟩=some (.pointer (some ⟨mp,0,none⟩)):=h.tail 6
theorem Mach.inp_ (h:Mach w p mp ap ov m):w.cell? ⟨p,23,none⟩=some (.string m.inp):=h.tail 7
theorem Mach.read_ (h:Mach w p mp ap ov m):w.cell? ⟨p,24,none⟩=some (.int .i64 m.read):=h.tail 8
theorem Mach.out_ (h:Mach w p mp ap ov m):w.cell? ⟨p,25,none⟩=some ov:=h.tail 9
theorem Mach.en_ (h:Mach w p mp ap ov m):w.cell? ⟨p,26,none⟩=some (.int .i64 m.en):=h.tail 10
theorem Mach.trap_ (h:Mach w p mp ap ov m):w.cell? ⟨p,27,none⟩=some (.int .i64 m.trap):=h.tail 11
theorem Mach.drew (h:Mach w p mp ap ov m):Mach w.drew p mp ap ov m:=⟨h.ok,h.blk,h.mem,h.out⟩
theorem Mach.alloc (h:Mach w p mp ap ov m) (o:Obj):Mach (w.alloc o) p mp ap ov m:=⟨h.ok,h.blk.alloc o,⟨h.mem.1.alloc o,h.mem.2.alloc o⟩,h.out.alloc o⟩
theorem own_kept_cpu {S:Nat→Prop} {w w':World} {base:Nat} {e:TypeId} {size n:Nat} {v:Value} {xs:List Value} (h:w.ownsRow base e size v n xs) (hk:Kept S w w') (hS:∀ b,v.ownBlock=some b→S b):w'.ownsRow base e size v n xs:=by
 refine⟨h.1,?_⟩
 rcases h.2 with h2 | ⟨g,cap,cur,hv,hg,hh,r⟩
 ·exact Or.inl h2
 ·exact Or.inr ⟨g,cap,cur,hv,hg,(hk.block g (hS g (by rw[hv];rfl))).trans hh,r⟩
theorem Mach.kept {S:Nat→Prop} {w':World} (h:Mach w p mp ap ov m) (hk:Kept S w w') (h1:S p) (h2:S mp) (h3:S ap) (h4:∀ b,ov.ownBlock=some b→S b):Mach w' p mp ap ov m:=
 ⟨h.ok,h.blk.kept hk h1,h.mem.kept hk h2 h3,own_kept_cpu h.out hk h4⟩
theorem Mach.below {w':World} (h:Mach w p mp ap ov m) (hb:Below w.heap.size w w'):Mach w' p mp ap ov m:=
 h.kept ((Kept.refl (fun k=>k<w.heap.size) w).below hb fun k h=>h) h.blk.lt h.mem.1.lt h.mem.2.lt fun b hb=>(h.out.lt b hb).2
theorem own_blk_ne {w:World} {g base n s:Nat} {t e:TypeId} {v:Value} {xs:List Value} {cs:Array Value} (h:w.ownsRow base e s v n xs) (hb:Blk w g t cs) (hne:e≠t):∀ b,v.ownBlock=some b→g≠b:=by
 rintro b hb' rfl
 rcases h.2 with ⟨rfl,_⟩ | ⟨g',cap,cur,rfl,_,hh,_⟩
 ·cases hb'
 ·have:g'=g:=by simpa [Value.ownBlock] using hb'
  subst this
  exact Blk.ne_ (w:=w) (t:=e) hh hb hne rfl
theorem Mach.store {m':Mc} {ov':Value} (h:Mach w p mp ap ov m) (k:Nat) (v:Value) (hc:(mcells m mp ov).setIfInBounds k v=mcells m' mp ov') (hok:m'.Ok) (hm:m'.mem=m.mem) (ho:(w.setCell ⟨p,k,none⟩ v).ownsRow 0 5 1 ov' m'.out.length (m'.out.map (Value.int .u8))) :
  Mach (w.setCell ⟨p,k,none⟩ v) p mp ap ov' m':=by
 refine⟨hok,?_,?_,ho⟩
 ·have:=h.blk.set_ k v
  rwa [hc] at this
 ·rw[hm]
  exact⟨h.mem.1.far (p:=⟨p,k,none⟩) (h.mem.1.ne_ h.blk (by decide)) v,h.mem.2.far (p:=⟨p,k,none⟩) (h.mem.2.ne_ h.blk (by decide)) v⟩
theorem Mach.out_set (h:Mach w p mp ap ov m) (k:Nat) (v:Value):(w.setCell ⟨p,k,none⟩ v).ownsRow 0 5 1 ov m.out.length (m.out.map (Value.int .u8)):=by
 refine own_kept_cpu (S:=fun b=>b≠p) h.out ((Kept.refl _ w).setCell (p:=⟨p,k,none⟩) (fun e=>e rfl) v) fun b hb=>?_
 exact fun e=>own_blk_ne h.out h.blk (by decide) b hb e.symm
theorem mset (m:Mc) (h:m.Ok) (mp:Nat) (ov v:Value) (k:Nat):(mcells m mp ov).setIfInBounds (16+k) v=(m.r.map (Value.int .u32)++([Value.int .u32 m.h,.bool m.f.n,.bool m.f.z,.bool m.f.c,.bool m.f.v,.int .i64 m.pc,.pointer (some ⟨mp,0,none⟩),.string m.inp,.int .i64 m.read,ov,.int .i64 m.en,.int .i64 m.trap]).set k v).toArray:=by
 have hr:=h.r
 unfold mcells
 rw[List.setIfInBounds_toArray,List.set_append_right _ _ (by simp[hr])]
 simp[hr]
theorem Mach.set_reg (h:Mach w p mp ap ov m) (a:Nat) (v:Int) (hv:Mc.W32 v):Mach (w.setCell ⟨p,a,none⟩ (.int .u32 v)) p mp ap ov { m with r:=m.r.set a v }∨16≤a:=by
 rcases Nat.lt_or_ge a 16 with ha | ha
 ·refine Or.inl (h.store a _ ?_ ⟨by simp[h.ok.r],Mc.set_all h.ok.rb hv,h.ok.h,h.ok.pc,h.ok.ml,h.ok.mb,h.ok.il,h.ok.rd,h.ok.ol,h.ok.ob⟩ rfl (h.out_set a _))
  unfold mcells
  rw[List.setIfInBounds_toArray,List.set_append_left _ _ (by simp[h.ok.r,ha]),List.map_set]
 ·exact Or.inr ha
theorem Mach.set_r (h:Mach w p mp ap ov m) (a:Nat) (v:Int) (ha:a<16) (hv:Mc.W32 v):Mach (w.setCell ⟨p,a,none⟩ (.int .u32 v)) p mp ap ov { m with r:=m.r.set a v }:=by
 rcases h.set_reg a v hv with h1 | h1
 ·exact h1
 ·omega
theorem Mach.set_h (h:Mach w p mp ap ov m) (v:Int) (hv:Mc.W32 v):Mach (w.setCell ⟨p,16,none⟩ (.int .u32 v)) p mp ap ov { m with h:=v }:=
 h.store 16 _ (mset m h.ok mp ov _ 0) ⟨h.ok.r,h.ok.rb,hv,h.ok.pc,h.ok.ml,h.ok.mb,h.ok.il,h.ok.rd,h.ok.ol,h.ok.ob⟩ rfl (h.out_set 16 _)
theorem Mach.set_n (h:Mach w p mp ap ov m) (v:Bool):Mach (w.setCell ⟨p,17,none⟩ (.bool v)) p mp ap ov { m with f:={ m.f with n:=v } }:=
 h.store 17 _ (mset m h.ok mp ov _ 1) ⟨h.ok.r,h.ok.rb,h.ok.h,h.ok.pc,h.ok.ml,h.ok.mb,h.ok.il,h.ok.rd,h.ok.ol,h.ok.ob⟩ rfl (h.out_set 17 _)
theorem Mach.set_z (h:Mach w p mp ap ov m) (v:Bool):Mach (w.setCell ⟨p,18,none⟩ (.bool v)) p mp ap ov { m with f:={ m.f with z:=v } }:=
 h.store 18 _ (mset m h.ok mp ov _ 2) ⟨h.ok.r,h.ok.rb,h.ok.h,h.ok.pc,h.ok.ml,h.ok.mb,h.ok.il,h.ok.rd,h.ok.ol,h.ok.ob⟩ rfl (h.out_set 18 _)
theorem Mach.set_c (h:Mach w p mp ap ov m) (v:Bool):Mach (w.setCell ⟨p,19,none⟩ (.bool v)) p mp ap ov { m with f:={ m.f with c:=v } }:=
 h.store 19 _ (mset m h.ok mp ov _ 3) ⟨h.ok.r,h.ok.rb,h.ok.h,h.ok.pc,h.ok.ml,h.ok.mb,h.ok.il,h.ok.rd,h.ok.ol,h.ok.ob⟩ rfl (h.out_set 19 _)
theorem Mach.set_v (h:Mach w p mp ap ov m) (v:Bool):Mach (w.setCell ⟨p,20,none⟩ (.bool v)) p mp ap ov { m with f:={ m.f with v:=v } }:=
 h.store 20 _ (mset m h.ok mp ov _ 4) ⟨h.ok.r,h.ok.rb,h.ok.h,h.ok.pc,h.ok.ml,h.ok.mb,h.ok.il,h.ok.rd,h.ok.ol,h.ok.ob⟩ rfl (h.out_set 20 _)
theorem Mach.set_pc (h:Mach w p mp ap ov m) (v:Int) (hv:0≤v∧v≤1073741824):Mach (w.setCell ⟨p,21,none⟩ (.int .i64 v)) p mp ap ov { m with pc:=v }:=
 h.store 21 _ (mset m h.ok mp ov _ 5) ⟨h.ok.r,h.ok.rb,h.ok.h,hv,h.ok.ml,h.ok.mb,h.ok.il,h.ok.rd,h.ok.ol,h.ok.ob⟩ rfl (h.out_set 21 _)
theorem Mach.set_read (h:Mach w p mp ap ov m) (v:Nat) (hv:v≤m.inp.size):Mach (w.setCell ⟨p,24,none⟩ (.int .i64 v)) p mp ap ov { m with read:=v }:=
 h.store 24 _ (mset m h.ok mp ov _ 8) ⟨h.ok.r,h.ok.rb,h.ok.h,h.ok.pc,h.ok.ml,h.ok.mb,h.ok.il,hv,h.ok.ol,h.ok.ob⟩ rfl (h.out_set 24 _)
theorem Mach.set_en (h:Mach w p mp ap ov m) (v:Int):Mach (w.setCell ⟨p,26,none⟩ (.int .i64 v)) p mp ap ov { m with en:=v }:=
 h.store 26 _ (mset m h.ok mp ov _ 10) ⟨h.ok.r,h.ok.rb,h.ok.h,h.ok.pc,h.ok.ml,h.ok.mb,h.ok.il,h.ok.rd,h.ok.ol,h.ok.ob⟩ rfl (h.out_set 26 _)
theorem Mach.set_trap (h:Mach w p mp ap ov m) (v:Int):Mach (w.setCell ⟨p,27,none⟩ (.int .i64 v)) p mp ap ov { m with trap:=v }:=
 h.store 27 _ (mset m h.ok mp ov _ 11) ⟨h.ok.r,h.ok.rb,h.ok.h,h.ok.pc,h.ok.ml,h.ok.mb,h.ok.il,h.ok.rd,h.ok.ol,h.ok.ob⟩ rfl (h.out_set 27 _)
end
end Go.Proofs.YtceflhffilldeaaGreat
namespace Go.Proofs.YtceflhffilldeaaGreat
open Go.RowKit Bw
theorem mem_u32_info:(Tryz.prog.info? 37).map (fun i=>(i.zero,i.size,i.bytes))=some (some (.int .u32 0),1,4):=by kernel_rfl
theorem mem_u32_size:(Tryz.prog.info? 37).map (·.size)=some 1:=by kernel_rfl
theorem blk_of_own {w:World} {base g n:Nat} {e:TypeId} {xs:List Value} (h:w.ownsRow base e 1 (.slice (some ⟨g,0,none⟩) n n) n xs):Blk w g e xs.toArray:=by
 rcases h.2 with ⟨h1,_⟩ | ⟨g',cap,cur,hv,hb,hh,hn,hc,hs,ht⟩
 ·cases h1
 ·injection hv with h1 h2 h3
  injection h1 with h1
  injection h1 with h1
  subst h1 h3
  rw[Nat.mul_one] at hs ht
  rw[List.take_of_length_le (by simp;omega)] at ht
  unfold Blk
  rw[hh,← ht]
theorem made_blk {w:World} {base g n:Nat} {e:TypeId} {x:Value} (h:w.ownsRow base e 1 (.slice (some ⟨g,0,none⟩) n n) n (madeCells (#[x]) (n*1)).toList):Blk w g e (List.replicate n x).toArray:=by
 have h1:=blk_of_own h
 rw[toList_madeCells_one,Nat.mul_one] at h1
 exact h1
def MadeMem (w:World) (l:List Int) (e:Ending) (w':World):Prop:=
 ∃ mp ap,e=.returned (.tuple #[.pointer (some ⟨mp,0,none⟩),.int .i64 0])∧w.heap.size≤mp∧w.heap.size≤ap∧MemAt w' mp ap l∧Below w.heap.size w w'
theorem mem_new (l:List Int) (v:Value) (w:World) (h:Row .u32 w v l) (hl:l.length≤65536) :
  Calls Tryz.prog 62 #[v] w fun e w'=>MadeMem w l e w':=by
 have hl':¬ (65536:Int)<l.length:=by omega
 obtain⟨i0,hi0,hz0,hz1,hz2⟩:=info_parts mem_u32_info
 obtain⟨hm,A,c,rfl,hc⟩:=h
 have hc':=zh hc
 clear hc
 go_enter Tryz.func62,Tryz.ntmps62
 by_cases hz:l.length=0
 ·have e0:l=[]:=List.length_eq_zero_iff.1 hz
  subst e0
  simp only[List.length_nil,Int.natCast_zero,Int.cast_ofNat_Int] at hl' hm hc' ⊢
  go_wp2_with (first | (at_make;refine wpList_make_full _ rfl (.tmp 9) (.tmp 9) 30 rfl w.heap.size 37 i0 _ 1 Tryz.underlying30 hi0 hz0 hz1 .i64 .i64 _ _ 0 rfl rfl rfl rfl (by rw[hz2];omega) (by simp only[maxLen];omega) (Nat.le_refl _) ?_;intro w1 hown hg;have hb1:=zh ((Below.refl w.heap.size w).grown hg (Nat.le_refl _) (fun k hk=>by cases hk));have hB1:=zh (made_blk hown);clear hg hown) | (refine wpList_copy_nothing rfl (.tmp 16) (.tmp 17) 30 30 rfl 37 Tryz.underlying30 mem_u32_size _ _ _ _ _ _ rfl rfl rfl ?_))
  go_ret2
  have B1:=hB1.out
  have S1:=hb1.out.size
  refine⟨w1.heap.size,w.heap.size,rfl,S1,Nat.le_refl _,⟨Blk.new w1 _ _,B1.alloc _⟩,hb1.out.alloc S1 _⟩
 ·have hzp:0<l.length:=by omega
  obtain⟨ad,rfl,hlt0,_⟩:=hc'.out 0 hzp
  go_wp2_with (first | (at_make;refine wpList_make_full _ rfl (.tmp 9) (.tmp 9) 30 rfl w.heap.size 37 i0 _ 1 Tryz.underlying30 hi0 hz0 hz1 .i64 .i64 _ _ l.length rfl rfl rfl rfl (by rw[hz2];omega) (by simp only[maxLen];omega) (Nat.le_refl _) ?_;intro w1 hown hg;have hb1:=zh ((Below.refl w.heap.size w).grown hg (Nat.le_refl _) (fun k hk=>by cases hk));have hB1:=zh (made_blk hown);clear hg hown) | (refine wpList_copy_own rfl (.tmp 16) (.tmp 17) 30 30 rfl 37 Tryz.underlying30 mem_u32_size w.heap.size 0 l.length l.length ad l.length c rfl rfl _ 37 (hB1.out.alloc _) (l.map (Value.int .u32)) (by simp) ?c1 (by simp) (by simp[Value.oneCell']) ?_))
  case c1=>
   intro j x hj
   have hjl:j<l.length:=(List.getElem?_eq_some_iff.1 hj).1
   obtain⟨ad',e1,h1,h2⟩:=hc'.out j hjl
   injection e1 with e1
   subst e1
   have h3:l.getD j 0=x:=by simp[List.getD,hj]
   rw[h3] at h2
   have h4:w1.cell? (ad.add j)=some (.int .u32 x):=(hb1.out.cell (p:=ad.add j) (by rw[block_add];exact h1)).trans h2
   have h5:=hb1.out.size
   exact(Kept.cell (S:=fun k=>k<w1.heap.size) ((Kept.refl _ w1).alloc (fun k h=>h) _) (p:=ad.add j) (by rw[block_add];omega)).trans h4
  go_wp2_with fail
  go_ret2
  have B1:=hB1.out
  have S1:=hb1.out.size
  have B2:=B1.alloc (.cells #[.slice (some ⟨w.heap.size,0,none⟩) l.length l.length] 182)
  have hgl:=B1.lt
  refine⟨w1.heap.size,w.heap.size,rfl,S1,Nat.le_refl _,⟨?_,?_⟩,below_setRow (hb1.out.alloc S1 _) (Nat.le_refl _) _⟩
  ·exact(setRow_other _ _ _ _ (by omega)).trans (Blk.new w1 _ _)
  ·refine(setRow_heap _ _ _ _ _ _ B2).trans ?_
   simp
end Go.Proofs.YtceflhffilldeaaGreat
namespace Go.Proofs.YtceflhffilldeaaGreat
open Go.RowKit Bw
def Mc.start (l:List Int) (st:Int) (s:ByteArray):Mc:=⟨List.replicate 16 0,0,⟨false,false,false,false⟩,st,l,s,0,[],0,0⟩
theorem Mc.start_ok (l:List Int) (st:Int) (s:ByteArray) (hu:∀ x∈l,Mc.W32 x) (hl:l.length≤65536) (hs:s.size≤4096) (h0:0≤st) (h1:st≤l.length):(Mc.start l st s).Ok:=
 ⟨by simp[Mc.start],fun x hx=>by simp[Mc.start] at hx;subst hx;simp[Mc.W32],by simp[Mc.start,Mc.W32],by simp only[Mc.start];omega,hl,hu,hs,Nat.zero_le _,by simp[Mc.start],by simp[Mc.start]⟩
def Mc.noStart (l:List Int) (st:Int) (s:ByteArray):Int:=if 65536<l.length then 3 else if 4096<s.size then 2 else if st<0∨(l.length:Int)<st then 1 else 0
def MadeCpu (w:World) (l:List Int) (st:Int) (s:ByteArray) (e:Ending) (w':World):Prop:=
 ∃ p mp ap,e=.returned (.tuple #[.pointer (some ⟨p,0,none⟩),.int .i64 0])∧w.heap.size≤p∧w.heap.size≤mp∧w.heap.size≤ap∧Mach w' p mp ap (.slice none 0 0) (Mc.start l st s)∧Below w.heap.size w w'
theorem mcells_start (l:List Int) (st:Int) (s:ByteArray) (mp:Nat):mcells (Mc.start l st s) mp (.slice none 0 0)=#[.int .u32 0,.int .u32 0,.int .u32 0,.int .u32 0,.int .u32 0,.int .u32 0,.int .u32 0,.int .u32 0,.int .u32 0,.int .u32 0,.int .u32 0,.int .u32 0,.int .u32 0,.int .u32 0,.int .u32 0,.int .u32 0,
  .int .u32 0,.bool false,.bool false,.bool false,.bool false,.int .i64 st,.pointer (some ⟨mp,0,none⟩),.string s,.int .i64 0,.slice none 0 0,.int .i64 0,.int .i64 0]:=rfl
theorem cpu_new (l:List Int) (st:Int) (s:ByteArray) (v:Value) (w:World) (h:Row .u32 w v l) (hu:∀ x∈l,Mc.W32 x) (hl:l.length≤65536) (hs:s.size≤4096) (h0:0≤st) (h1:st≤l.length) :
  Calls Tryz.prog 42 #[v,.int .i64 st,.string s] w fun e w'=>MadeCpu w l st s e w':=by
 have MN:=fun w' hw=>zh (mem_new l v w' hw hl)
 have ok:=zh (Mc.start_ok l st s hu hl hs h0 h1)
 have h':=zh h
 obtain⟨hm,A,c,rfl,hc⟩:=h
 have hs':(s.size:Int)≤4096:=by omega
 clear hc hu
 go_enter Tryz.func42,Tryz.ntmps42
 go_wp2_with fail
 refine(MN _ h'.out).out.mono ?_
 rintro e w1 ⟨mp,ap,rfl,hmp,hap,hm1,hb1⟩
 have hm1:=zh hm1
 have hb1:=zh hb1
 have hmp:=zh hmp
 have hap:=zh hap
 go_wp2_with fail
 go_ret2
 have hb:=hb1.out.size
 refine⟨w1.heap.size,mp,ap,rfl,hb,hmp.out,hap.out,?_,hb1.out.alloc hb _⟩
 refine⟨ok.out,?_,⟨hm1.out.1.alloc _,hm1.out.2.alloc _⟩,World.ownsRow_nil _ _ _ _⟩
 rw[mcells_start]
 exact Blk.new _ _ _
theorem mem_new_many (l:List Int) (v:Value) (w:World) (h:Row .u32 w v l) (hl:65536<l.length) :
  Calls Tryz.prog 62 #[v] w fun e w'=>e=.returned (.tuple #[.pointer none,.int .i64 3])∧w=w':=by
 have hl':(65536:Int)<l.length:=by omega
 obtain⟨hm,A,c,rfl,hc⟩:=h
 clear hc
 go_enter Tryz.func62,Tryz.ntmps62
 go_wp2_with fail
 go_ret2
 exact⟨rfl,rfl⟩
theorem cpu_start_any (l:List Int) (st:Int) (s:ByteArray) (h:Mc.noStart l st s=0):l.length≤65536∧s.size≤4096∧0≤st∧st≤l.length:=by
 unfold Mc.noStart at h
 split at h
 ·cases h
 split at h
 ·cases h
 split at h
 ·cases h
 ·omega
end Go.Proofs.YtceflhffilldeaaGreat
namespace Go.Proofs.YtceflhffilldeaaGreat
open Go.RowKit Bw
theorem and_field (V l k:Nat) (hV:V<2 ^ k):(V*2 ^ l) &&& ((2 ^ k-1)*2 ^ l)=V*2 ^ l:=by
 apply Nat.eq_of_testBit_eq
 intro i
 rw[Nat.testBit_and,Nat.testBit_mul_two_pow,Nat.testBit_mul_two_pow,Nat.testBit_two_pow_sub_one]
 by_cases h1:l≤i
 ·by_cases h2:i-l<k
  ·simp[h1,h2]
  ·have h3:V.testBit (i-l)=false:=Nat.testBit_lt_two_pow (Nat.lt_of_lt_of_le hV (Nat.pow_le_pow_right (by decide) (by omega)))
   simp[h3]
 ·simp[h1]
theorem byte_put (w v:Int) (r:Nat) (hr:r<4) (hw:0≤w) (hw':w<4294967296) (hv:0≤v) (hv':v<256) :
  bits .or .u32 (bits .andNot .u32 w (255*2 ^ (8*r) % 4294967296)) (v*2 ^ (8*r) % 4294967296)=w-w / 2 ^ (8*r) % 256*2 ^ (8*r)+v*2 ^ (8*r):=by
 have h:=put_val w ((8*r:Nat):Int) 8 v hw hw' hv (by omega) (by rw[may_iff];omega)
 have e1:bits .and .u32 (v*2 ^ (8*r) % 4294967296) (255*2 ^ (8*r) % 4294967296)=v*2 ^ (8*r) % 4294967296:=by
  obtain⟨V,rfl⟩:=Int.eq_ofNat_of_zero_le hv
  have hr4:r=0∨r=1∨r=2∨r=3:=by omega
  have key:=and_field V (8*r) 8 (by omega)
  have hb:V*2 ^ (8*r)<4294967296:=by rcases hr4 with rfl | rfl | rfl | rfl<;>omega
  have a1:(V:Int)*2 ^ (8*r) % 4294967296=((V*2 ^ (8*r):Nat):Int):=by
   rw[← pow_cast (8*r),← Int.natCast_mul];omega
  have a2:(255:Int)*2 ^ (8*r) % 4294967296=(((2 ^ 8-1)*2 ^ (8*r):Nat):Int):=by
   rcases hr4 with rfl | rfl | rfl | rfl<;>decide
  rw[a1,a2,u32_and_nat _ _ hb (by rcases hr4 with rfl | rfl | rfl | rfl<;>decide),key]
 have e2:((2:Int) ^ (8:Int).toNat-1)=255:=by decide
 rw[show (((8*r:Nat):Int)).toNat=8*r from Int.toNat_natCast _,e2,e1] at h
 rw[h,Put,if_pos (by rw[may_iff];omega)]
 rw[show (((8*r:Nat):Int)).toNat=8*r from Int.toNat_natCast _]
 have hr4:r=0∨r=1∨r=2∨r=3:=by omega
 rcases hr4 with rfl | rfl | rfl | rfl<;>simp<;>omega
theorem mem_word_yes (mp ap k:Nat) (at_:Int) (l:List Int) (w:World) (h:MemAt w mp ap l) (hk:at_ / 4=k) (h0:0≤at_) (h1:at_<4294967296) (hl:l.length≤65536) (hlt:k<l.length) :
  Calls Tryz.prog 124 #[.pointer (some ⟨mp,0,none⟩),.int .u32 at_] w fun e w'=>e=.returned (.pointer (some ⟨ap,k,none⟩))∧w=w':=by
 have:=mem_word mp ap k at_ l w h hk h0 h1 hl
 rwa [if_pos hlt] at this
theorem mem_word_no (mp ap k:Nat) (at_:Int) (l:List Int) (w:World) (h:MemAt w mp ap l) (hk:at_ / 4=k) (h0:0≤at_) (h1:at_<4294967296) (hl:l.length≤65536) (hlt:¬ k<l.length) :
  Calls Tryz.prog 124 #[.pointer (some ⟨mp,0,none⟩),.int .u32 at_] w fun e w'=>e=.returned (.pointer none)∧w=w':=by
 have:=mem_word mp ap k at_ l w h hk h0 h1 hl
 rwa [if_neg hlt] at this
theorem mem_load (mp ap k:Nat) (at_:Int) (l:List Int) (w:World) (h:MemAt w mp ap l) (hk:at_ / 4=k) (h0:0≤at_) (h1:at_<4294967296) (hl:l.length≤65536) (ok:Bool) (hok:(at_ % 4==0 && decide (k<l.length))=ok) :
  Calls Tryz.prog 96 #[.pointer (some ⟨mp,0,none⟩),.int .u32 at_] w fun e w'=>e=.returned (.tuple #[.int .u32 (if ok=true then l.getD k 0 else 0),.bool ok])∧w=w':=by
 by_cases hlt:k<l.length
 ·have WD:=zh (mem_word_yes mp ap k at_ l w h hk h0 h1 hl hlt)
  have cx:=h.cell k hlt
  rw[decide_eq_true hlt,Bool.and_true] at hok
  clear h hk
  by_cases h4:at_ % 4=0
  ·have h4':(at_ % 4 != 0)=false:=by simp[h4]
   have hok:ok=true:=by rw[← hok,h4];rfl
   subst hok
   clear h4
   go_enter Tryz.func96,Tryz.ntmps96
   go_wp2_with (go_at_call 124;refine WD.out.mono ?_;rintro e w' ⟨rfl,rfl⟩)
   go_ret2
   exact⟨rfl,rfl⟩
  ·have h4':(at_ % 4 != 0)=true:=by simp[h4]
   have hok:ok=false:=by rw[← hok,beq_eq_false_iff_ne];exact h4
   subst hok
   clear h4
   go_enter Tryz.func96,Tryz.ntmps96
   go_wp2_with (go_at_call 124;refine WD.out.mono ?_;rintro e w' ⟨rfl,rfl⟩)
   go_ret2
   exact⟨rfl,rfl⟩
 ·have WD:=zh (mem_word_no mp ap k at_ l w h hk h0 h1 hl hlt)
  rw[decide_eq_false hlt,Bool.and_false] at hok
  subst hok
  clear h hk
  go_enter Tryz.func96,Tryz.ntmps96
  go_wp2_with (go_at_call 124;refine WD.out.mono ?_;rintro e w' ⟨rfl,rfl⟩)
  go_ret2
  exact⟨rfl,rfl⟩
theorem mem_store (mp ap k:Nat) (at_ v:Int) (l:List Int) (w:World) (h:MemAt w mp ap l) (hk:at_ / 4=k) (h0:0≤at_) (h1:at_<4294967296) (hl:l.length≤65536) (ok:Bool) (hok:(at_ % 4==0 && decide (k<l.length))=ok) :
  Calls Tryz.prog 158 #[.pointer (some ⟨mp,0,none⟩),.int .u32 at_,.int .u32 v] w fun e w'=>e=.returned (.bool ok)∧w'=if ok=true then w.setCell ⟨ap,k,none⟩ (.int .u32 v) else w:=by
 by_cases hlt:k<l.length
 ·have WD:=zh (mem_word_yes mp ap k at_ l w h hk h0 h1 hl hlt)
  have cx:=h.cell k hlt
  have fx:=h.2.frozen k
  rw[decide_eq_true hlt,Bool.and_true] at hok
  clear h hk
  by_cases h4:at_ % 4=0
  ·have h4':(at_ % 4 != 0)=false:=by simp[h4]
   have hok:ok=true:=by rw[← hok,h4];rfl
   subst hok
   clear h4
   go_enter Tryz.func158,Tryz.ntmps158
   go_wp2_with (go_at_call 124;refine WD.out.mono ?_;rintro e w' ⟨rfl,rfl⟩)
   go_ret
   exact⟨rfl,rfl⟩
  ·have h4':(at_ % 4 != 0)=true:=by simp[h4]
   have hok:ok=false:=by rw[← hok,beq_eq_false_iff_ne];exact h4
   subst hok
   clear h4
   go_enter Tryz.func158,Tryz.ntmps158
   go_wp2_with (go_at_call 124;refine WD.out.mono ?_;rintro e w' ⟨rfl,rfl⟩)
   go_ret
   exact⟨rfl,rfl⟩
 ·have WD:=zh (mem_word_no mp ap k at_ l w h hk h0 h1 hl hlt)
  rw[decide_eq_false hlt,Bool.and_false] at hok
  subst hok
  clear h hk
  go_enter Tryz.func158,Tryz.ntmps158
  go_wp2_with (go_at_call 124;refine WD.out.mono ?_;rintro e w' ⟨rfl,rfl⟩)
  go_ret
  exact⟨rfl,rfl⟩
theorem byte_ret {a b:Int} (h:a=b):Ending.returned (.tuple #[.int .u32 a,.bool true])=.returned (.tuple #[.int .u32 b,.bool true]):=by rw[h]
theorem mem_byte (mp ap k:Nat) (at_:Int) (l:List Int) (w:World) (h:MemAt w mp ap l) (hk:at_ / 4=k) (h0:0≤at_) (h1:at_<4294967296) (hl:l.length≤65536) (hw:∀ x∈l,Mc.W32 x) (ok:Bool) (hok:decide (k<l.length)=ok) :
  Calls Tryz.prog 128 #[.pointer (some ⟨mp,0,none⟩),.int .u32 at_] w fun e w'=>e=.returned (.tuple #[.int .u32 (if ok=true then Mc.part (l.getD k 0) at_ else 0),.bool ok])∧w=w':=by
 by_cases hlt:k<l.length
 ·have WD:=zh (mem_word_yes mp ap k at_ l w h hk h0 h1 hl hlt)
  have cx:=h.cell k hlt
  have hx:Mc.W32 (l.getD k 0):=hw _ (by simp[List.getD,hlt])
  unfold Mc.W32 at hx
  rw[decide_eq_true hlt] at hok
  subst hok
  clear h hk hw
  have hp:Mc.part (l.getD k 0) at_=l.getD k 0 / 2 ^ (8*(at_ % 4)).toNat % 256:=rfl
  have hp:=zh hp
  generalize Mc.part (l.getD k 0) at_=pt at *
  generalize l.getD k 0=x at *
  have h4:at_ % 4=0∨at_ % 4=1∨at_ % 4=2∨at_ % 4=3:=by omega
  rcases h4 with h4 | h4 | h4 | h4
  all_goals
   have hp2:=hp.out
   rw[h4] at hp2
   simp at hp2
   subst hp2
   clear hp
   go_enter Tryz.func128,Tryz.ntmps128
   go_wp2_with (go_at_call 124;refine WD.out.mono ?_;rintro e w' ⟨rfl,rfl⟩)
   go_ret2
   first | exact⟨rfl,rfl⟩ | exact⟨byte_ret (by omega),rfl⟩
 ·have WD:=zh (mem_word_no mp ap k at_ l w h hk h0 h1 hl hlt)
  rw[decide_eq_false hlt] at hok
  subst hok
  clear h hk
  go_enter Tryz.func128,Tryz.ntmps128
  go_wp2_with (go_at_call 124;refine WD.out.mono ?_;rintro e w' ⟨rfl,rfl⟩)
  go_ret2
  exact⟨rfl,rfl⟩
theorem byte_world {w:World} {p:Addr} {a b:Int} (h:a=b):w.setCell p (.int .u32 a)=w.setCell p (.int .u32 b):=by rw[h]
theorem byte_put_0 (x v:Int) (hx0:0≤x) (hx1:x<4294967296) (hv0:0≤v) (hv1:v<4294967296):bits .or .u32 (bits .andNot .u32 x 255) (v % 256)=x-x % 256+v % 256:=by
 have h:=byte_put x (v % 256) 0 (by omega) hx0 hx1 (by omega) (by omega)
 rw[show (255:Int)*2 ^ (8*0) % 4294967296=255 by decide,show (2:Int) ^ (8*0)=1 by decide,show v % 256*1 % 4294967296=v % 256*1 by omega] at h
 simpa using h
theorem byte_put_1 (x v:Int) (hx0:0≤x) (hx1:x<4294967296) (hv0:0≤v) (hv1:v<4294967296):bits .or .u32 (bits .andNot .u32 x 65280) (v % 256*256)=x-x / 256 % 256*256+v % 256*256:=by
 have h:=byte_put x (v % 256) 1 (by omega) hx0 hx1 (by omega) (by omega)
 rw[show (255:Int)*2 ^ (8*1) % 4294967296=65280 by decide,show (2:Int) ^ (8*1)=256 by decide,show v % 256*256 % 4294967296=v % 256*256 by omega] at h
 exact h
theorem byte_put_2 (x v:Int) (hx0:0≤x) (hx1:x<4294967296) (hv0:0≤v) (hv1:v<4294967296):bits .or .u32 (bits .andNot .u32 x 16711680) (v % 256*65536)=x-x / 65536 % 256*65536+v % 256*65536:=by
 have h:=byte_put x (v % 256) 2 (by omega) hx0 hx1 (by omega) (by omega)
 rw[show (255:Int)*2 ^ (8*2) % 4294967296=16711680 by decide,show (2:Int) ^ (8*2)=65536 by decide,show v % 256*65536 % 4294967296=v % 256*65536 by omega] at h
 exact h
theorem byte_put_3 (x v:Int) (hx0:0≤x) (hx1:x<4294967296) (hv0:0≤v) (hv1:v<4294967296):bits .or .u32 (bits .andNot .u32 x 4278190080) (v % 256*16777216)=x-x / 16777216 % 256*16777216+v % 256*16777216:=by
 have h:=byte_put x (v % 256) 3 (by omega) hx0 hx1 (by omega) (by omega)
 rw[show (255:Int)*2 ^ (8*3) % 4294967296=4278190080 by decide,show (2:Int) ^ (8*3)=16777216 by decide,show v % 256*16777216 % 4294967296=v % 256*16777216 by omega] at h
 exact h
theorem mem_putbyte (mp ap k:Nat) (at_ v:Int) (l:List Int) (w:World) (h:MemAt w mp ap l) (hk:at_ / 4=k) (h0:0≤at_) (h1:at_<4294967296) (hl:l.length≤65536) (hw:∀ x∈l,Mc.W32 x) (hv:Mc.W32 v) (ok:Bool) (hok:decide (k<l.length)=ok) :
  Calls Tryz.prog 157 #[.pointer (some ⟨mp,0,none⟩),.int .u32 at_,.int .u32 v] w fun e w'=>e=.returned (.bool ok)∧w'=if ok=true then w.setCell ⟨ap,k,none⟩ (.int .u32 (Mc.turned (l.getD k 0) at_ v)) else w:=by
 by_cases hlt:k<l.length
 ·have WD:=zh (mem_word_yes mp ap k at_ l w h hk h0 h1 hl hlt)
  have cx:=h.cell k hlt
  have fx:=h.2.frozen k
  have hx:Mc.W32 (l.getD k 0):=hw _ (by simp[List.getD,hlt])
  unfold Mc.W32 at hx hv
  rw[decide_eq_true hlt] at hok
  subst hok
  clear h hk hw
  have hp:Mc.turned (l.getD k 0) at_ v=l.getD k 0-l.getD k 0 / 2 ^ (8*(at_ % 4)).toNat % 256*2 ^ (8*(at_ % 4)).toNat+v % 256*2 ^ (8*(at_ % 4)).toNat:=rfl
  have hp:=zh hp
  generalize Mc.turned (l.getD k 0) at_ v=pt at *
  generalize l.getD k 0=x at *
  obtain⟨hx0,hx1⟩:=hx
  obtain⟨hv0,hv1⟩:=hv
  have h4:at_ % 4=0∨at_ % 4=1∨at_ % 4=2∨at_ % 4=3:=by omega
  rcases h4 with h4 | h4 | h4 | h4
  ·have hp2:pt=x-x % 256+v % 256:=by
    have:=hp.out
    rw[h4] at this
    simpa using this
   subst hp2
   have hb:=byte_put_0 x v hx0 hx1 hv0 hv1
   have hb:=zh hb
   clear hp
   go_enter Tryz.func157,Tryz.ntmps157
   go_wp2_with (go_at_call 124;refine WD.out.mono ?_;rintro e w' ⟨rfl,rfl⟩)
   go_ret
   exact⟨rfl,by first | rfl | exact byte_world hb.out⟩
  ·have hp2:pt=x-x / 256 % 256*256+v % 256*256:=by
    have:=hp.out
    rw[h4] at this
    simpa using this
   subst hp2
   have hb:=byte_put_1 x v hx0 hx1 hv0 hv1
   have hb:=zh hb
   clear hp
   go_enter Tryz.func157,Tryz.ntmps157
   go_wp2_with (go_at_call 124;refine WD.out.mono ?_;rintro e w' ⟨rfl,rfl⟩)
   go_ret
   exact⟨rfl,by first | rfl | exact byte_world hb.out⟩
  ·have hp2:pt=x-x / 65536 % 256*65536+v % 256*65536:=by
    have:=hp.out
    rw[h4] at this
    simpa using this
   subst hp2
   have hb:=byte_put_2 x v hx0 hx1 hv0 hv1
   have hb:=zh hb
   clear hp
   go_enter Tryz.func157,Tryz.ntmps157
   go_wp2_with (go_at_call 124;refine WD.out.mono ?_;rintro e w' ⟨rfl,rfl⟩)
   go_ret
   exact⟨rfl,by first | rfl | exact byte_world hb.out⟩
  ·have hp2:pt=x-x / 16777216 % 256*16777216+v % 256*16777216:=by
    have:=hp.out
    rw[h4] at this
    simpa using this
   subst hp2
   have hb:=byte_put_3 x v hx0 hx1 hv0 hv1
   have hb:=zh hb
   clear hp
   go_enter Tryz.func157,Tryz.ntmps157
   go_wp2_with (go_at_call 124;refine WD.out.mono ?_;rintro e w' ⟨rfl,rfl⟩)
   go_ret
   exact⟨rfl,by first | rfl | exact byte_world hb.out⟩
 ·have WD:=zh (mem_word_no mp ap k at_ l w h hk h0 h1 hl hlt)
  rw[decide_eq_false hlt] at hok
  subst hok
  clear h hk
  go_enter Tryz.func157,Tryz.ntmps157
  go_wp2_with (go_at_call 124;refine WD.out.mono ?_;rintro e w' ⟨rfl,rfl⟩)
  go_ret
  exact⟨rfl,rfl⟩
end Go.Proofs.YtceflhffilldeaaGreat
