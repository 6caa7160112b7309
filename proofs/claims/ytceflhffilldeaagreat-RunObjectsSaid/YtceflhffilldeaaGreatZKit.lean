/-
  Joined: ZKit.
-/
import Derived.Test.YtceflhffilldeaaGreatZReckA
import Derived.Test.YtceflhffilldeaaGreatZReckB
import Derived.Test.YtceflhffilldeaaGreatZReckC
import Derived.Test.YtceflhffilldeaaGreatZStep
import Derived.Test.YtceflhffilldeaaGreatZOpen
import Derived.ProofKit
set_option linter.unusedVariables false
set_option linter.unusedSimpArgs false
set_option maxRecDepth 100000
set_option maxHeartbeats 16000000
namespace Go.Proofs.YtceflhffilldeaaGreat
open Go.RowKit Bw
theorem ref02_encode_all (x:Ins) (w:World) (hx:x.fits) :
  Calls Tryz.prog 61 #[x.val] w fun e w'=>e=.returned (.tuple #[.int .u32 x.E,.int .i64 x.eerr])∧Below w.heap.size w w':=by
 cases hg:x.good
 ·rw[Ins.E,Ins.eerr,hg];exact ref02_encode_none x w hx hg
 ·rw[Ins.E,Ins.eerr,hg];exact ref02_encode x w hx hg
theorem insAt_blk (w:World) (t:TypeId) (xs:List Ins) (cs:Array Value) (h:cs=(xs.flatMap fun x=>x.cells.toList).toArray):InsAt (w.alloc (.cells cs t)) w.heap.size xs:=by
 subst h
 refine⟨by simp,fun k x hx j v hv=>?_⟩
 rw[cell_of_row _ _ _ _ _ _ (heap_alloc_new w _)]
 have key:∀ (xs:List Ins) (k:Nat),xs[k]?=some x→(xs.flatMap fun x=>x.cells.toList)[k*8+j]?=some v:=by
  intro xs
  induction xs with
  | nil=>intro k hk;simp at hk
  | cons y ys ih=>
   intro k hk
   have hl:y.cells.toList.length=8:=rfl
   rw[List.flatMap_cons]
   cases k with
   | zero=>
    simp at hk
    subst hk
    rw[Nat.zero_mul,Nat.zero_add,List.getElem?_append_left (by have:=(List.getElem?_eq_some_iff.1 hv).1;omega)]
    exact hv
   | succ k=>
    rw[List.getElem?_append_right (by omega),hl,show (k+1)*8+j-8=k*8+j by omega]
    exact ih k (by simpa using hk)
 simpa using key xs k hx
theorem own_base {w:World} {base base':Nat} {e:TypeId} {size n:Nat} {v:Value} {xs:List Value} (hle:base'≤base) (h:w.ownsRow base e size v n xs):w.ownsRow base' e size v n xs:=by
 refine⟨h.1,?_⟩
 rcases h.2 with h2 | ⟨g,cap,cur,hv,hg,r⟩
 ·exact Or.inl h2
 ·exact Or.inr ⟨g,cap,cur,hv,Nat.le_trans hle hg,r⟩
theorem halt_fits (b:Int) (hb0:-9223372036854775808≤b) (hb1:b≤9223372036854775807):∀ x∈haltIns b,x.fits:=by
 simp[haltIns,Ins.fits];omega
theorem law05_halt (b:Int) (w:World) (hb0:-9223372036854775808≤b) (hb1:b≤9223372036854775807) :
  Calls Tryz.prog 41 #[.int .i64 b] w fun e w'=>∃ v,e=.returned v∧w'.ownsRow 0 37 1 v 5 (((haltIns b).map Ins.E).map (Value.int .u32))∧Below w.heap.size w w':=by
 obtain⟨i0,hi0,hz0,hz1,hz2⟩:=info_parts u32_info
 go_enter Tryz.func41,Tryz.ntmps41
 go_wp2_with fail
 have I0:InsAt (w.alloc (.cells #[.int .i64 1,.bool true,.bool false,.int .i64 1,.int .i64 0,.int .i64 0,.int .i64 0,.int .i64 65535,.int .i64 1,.bool false,.bool false,.int .i64 1,.int .i64 1,.int .i64 0,.int .i64 8,.int .i64 65472,.int .i64 1,.bool false,.bool false,.int .i64 0,.int .i64 0,.int .i64 0,.int .i64 0,.int .i64 b,.int .i64 2,.bool true,.bool false,.int .i64 0,.int .i64 1,.int .i64 0,.int .i64 0,.int .i64 8,.int .i64 2,.bool true,.bool false,.int .i64 0,.int .i64 1,.int .i64 0,.int .i64 0,.int .i64 0] 128)) w.heap.size (haltIns b):=insAt_blk w _ _ _ rfl
 have BW:=(Below.refl w.heap.size w).alloc (Nat.le_refl _) (.cells #[.int .i64 1,.bool true,.bool false,.int .i64 1,.int .i64 0,.int .i64 0,.int .i64 0,.int .i64 65535,.int .i64 1,.bool false,.bool false,.int .i64 1,.int .i64 1,.int .i64 0,.int .i64 8,.int .i64 65472,.int .i64 1,.bool false,.bool false,.int .i64 0,.int .i64 0,.int .i64 0,.int .i64 0,.int .i64 b,.int .i64 2,.bool true,.bool false,.int .i64 0,.int .i64 1,.int .i64 0,.int .i64 0,.int .i64 8,.int .i64 2,.bool true,.bool false,.int .i64 0,.int .i64 1,.int .i64 0,.int .i64 0,.int .i64 0] 128)
 generalize w.alloc _=W at *
 have hf:=zh (halt_fits b hb0 hb1)
 have hlen:(haltIns b).length=5:=rfl
 obtain⟨xs,hxs⟩:∃ xs,haltIns b=xs:=⟨_,rfl⟩
 rw[hxs] at I0 hf hlen
 have hxs':=zh hxs
 clear hxs
 have hlen:=zh hlen
 have I0:=zh I0
 have BW:=zh BW
 obtain⟨g,hg⟩:∃ g,w.heap.size=g:=⟨_,rfl⟩
 rw[hg] at I0
 rw[hg]
 go_loopw [4,5] (fun o i wr=>∃ k:Nat,i=.int .i64 k∧k≤5∧wr.ownsRow W.heap.size 37 1 o k ((xs.take k).map fun x=>.int .u32 x.E)∧Below W.heap.size W wr) (fun _ i _=>5-(intOf i).toNat)
 case atStart=>exact⟨0,rfl,by omega,World.ownsRow_nil _ _ _ _,Below.refl _ _⟩
 case round=>
  obtain⟨k,rfl,hk,hown,hb⟩:=hrel
  have hown:=zh hown
  by_cases hlt:(k:Int)<5
  ·have hkl:k<xs.length:=by rw[hlen.out];omega
   have hxk:xs[k]?=some (xs[k]'hkl):=List.getElem?_eq_getElem hkl
   have hfk:=zh (hf.out _ (List.mem_of_getElem? hxk))
   have hk2:xs.take (k+1)=xs.take k++[xs[k]'hkl]:=by rw[List.take_add_one,hxk];rfl
   have hk2:=zh hk2
   have hr:=zh ((I0.out.below hb I0.out.1).2 k _ hxk)
   generalize xs[k]'hkl=x at *
   have s1:=zh (ins_size x)
   have s2:=zh (ins_size' x)
   have s3:=zh (ins_one x)
   have EN:=fun W=>zh (ref02_encode_all x W hfk.out)
   clear hxk
   go_wp2_with (first | (refine wpList_load_mid rfl 128 (.tmp 24) rfl g (k*8) rfl x.cells.toList _ hr.out Tryz.underlying128 rfl s2.out ?_))
   refine(EN _).out.mono ?_
   rintro e w1 ⟨rfl,hb1⟩
   have hown1:Hid (w1.ownsRow W.heap.size 37 1 _ k ((xs.take k).map fun x=>.int .u32 x.E)):=zh (own_below hown.out hb1)
   have hb2:Below W.heap.size W w1:=hb.trans (hb1.mono hb.size)
   clear hown hb1 hb
   go_wp2_with (at_builtin;refine wpList_append_own _ rfl (.tmp 29) (.tmp 31) 30 rfl W.heap.size 37 i0 _ 1 4 Tryz.underlying30 hi0 hz0 hz1 hz2 rfl (by omega) _ k _ rfl (hown1.out.alloc _) ⟨w1.heap.size,0,none⟩ 1 1 [.int .u32 x.E] rfl rfl (news1 w1 _ _) (by simp[Value.oneCell']) (by simp only[maxLen];omega) (by omega) (by simp;exact Nat.le_succ_of_le hb2.size) ?_;intro v2 w2 hown2 hg2 _)
   have hown2:=zh hown2
   have hb3:Below W.heap.size W w2:=(hb2.alloc hb2.size _).grown hg2 (by simp;exact Nat.le_succ_of_le hb2.size) (fun q hq=>(hown1.out.lt q hq).1)
   go_wp2_with fail
   refine⟨⟨k+1,by go_num,by omega,?_,hb3⟩,by simp[intOf];omega⟩
   rw[hk2.out,List.map_append]
   exact hown2.out
  ·go_wp2_with fail
   go_ret
   obtain rfl:k=5:=by omega
   refine⟨_,rfl,own_base (base:=W.heap.size) (Nat.zero_le _) ?_,hg ▸ BW.out.trans (hb.mono BW.out.size)⟩
   have:=hown.out
   rw[List.take_of_length_le (by rw[hlen.out];omega)] at this
   rw[show (xs.map fun x=>Value.int .u32 x.E)=(xs.map Ins.E).map (Value.int .u32) by rw[List.map_map];rfl,← hxs'.out,List.map_map] at this
   exact this
end Go.Proofs.YtceflhffilldeaaGreat
namespace Go.Proofs.YtceflhffilldeaaGreat
open Go.RowKit Bw
namespace Mc
def Goes (m m':Mc):Prop:=(∃ t,m'.out=m.out++t)∧m.read≤m'.read∧m'.inp=m.inp
theorem Goes.refl (m:Mc):Goes m m:=⟨⟨[],by simp⟩,Nat.le_refl _,rfl⟩
theorem Goes.trans {a b c:Mc} (h1:Goes a b) (h2:Goes b c):Goes a c:=by
 obtain⟨⟨t,ht⟩,h3,h4⟩:=h1
 obtain⟨⟨u,hu⟩,h5,h6⟩:=h2
 exact⟨⟨t++u,by rw[hu,ht,List.append_assoc]⟩,Nat.le_trans h3 h5,h6.trans h4⟩
theorem Goes.same {m m':Mc} (h1:m'.out=m.out) (h2:m'.read=m.read) (h3:m'.inp=m.inp):Goes m m':=⟨⟨[],by simp[h1]⟩,by omega,h3⟩
end Mc
end Go.Proofs.YtceflhffilldeaaGreat
namespace Go.Proofs.YtceflhffilldeaaGreat
open Go.RowKit Bw
theorem good_u (form:Int) (u v:Bool) (a b c op im:Int) (hg:Ins.good ⟨form,u,v,a,b,c,op,im⟩=true) (hf:form=0∨form=1):Alu.okOp op u=true∧(form=0→v=true→u=true∧op=0):=by
 have hr:=Ins.good_range _ hg
 simp only at hr
 rcases hf with rfl | rfl
 ·cases u<;>cases v<;>simp[Ins.good,Ins.uop] at hg<;>simp[Alu.okOp]<;>omega
 ·cases u<;>cases v<;>simp[Ins.good,Ins.uop] at hg<;>simp[Alu.okOp]<;>omega
theorem reckons_all:Reckons:=by
 intro S x hx hf p mp ap ov m w h hF hS
 obtain⟨form,u,v,a,b,c,op,im⟩:=x
 have hr:=Ins.good_range _ hx
 have hc:=Ins.good_ci _ _ _ _ _ _ _ _ hx
 have hu:=good_u _ _ _ _ _ _ _ _ hx hf
 simp only at hf hr
 obtain⟨A,rfl⟩:=Int.eq_ofNat_of_zero_le hr.2.2.1
 obtain⟨B,rfl⟩:=Int.eq_ofNat_of_zero_le hr.2.2.2.2.1
 obtain⟨C,rfl⟩:=Int.eq_ofNat_of_zero_le hr.2.2.2.2.2.2.1
 have hA:A<16:=by omega
 have hB:B<16:=by omega
 have hC:C<16:=by omega
 rcases hf with rfl | rfl
 ·obtain rfl:=hc.1 rfl
  cases v
  ·have e:m.reckons ⟨0,u,false,(A:Int),(B:Int),(C:Int),op,0⟩={ m with r:=m.r.set A (Alu.R op u (m.r.getD B 0) (m.r.getD C 0) m.h m.f),h:=Alu.H op u (m.r.getD B 0) (m.r.getD C 0) m.h,f:=Alu.F op u (m.r.getD B 0) (m.r.getD C 0) m.h m.f }:=by
    simp[Mc.reckons,Mc.reg,Mc.opnd]
   rw[e]
   exact cpu_reckons_0 S A B C op 0 u p mp ap ov m w h hA hB hC hu.1 hF hS
  ·obtain⟨rfl,rfl⟩:=hu.2 rfl rfl
   have e:m.reckons ⟨0,true,true,(A:Int),(B:Int),(C:Int),0,0⟩=m.sets A (Mc.packed m.f):=by
    simp[Mc.reckons]
   rw[e]
   exact cpu_reckons_flags S A B C p mp ap ov m w h hA hC hF hS
 ·have hi:=Ins.good_im1 _ _ _ _ _ _ _ hx
  have hc0:C=0:=by have:=hc.2.1 rfl;omega
  subst hc0
  by_cases he:op=0∧u=true
  ·obtain⟨rfl,rfl⟩:=he
   have e:m.reckons ⟨1,true,v,(A:Int),(B:Int),((0:Nat):Int),0,im⟩=m.sets A (im*65536 % 4294967296):=by
    simp[Mc.reckons]
   rw[e]
   exact cpu_reckons_up S v A B im p mp ap ov m w h hA hi.1 hi.2 hF hS
  ·have he':op≠0∨u=false:=by
    by_cases h1:op=0
    ·exact Or.inr (by cases u;rfl;exact absurd ⟨h1,rfl⟩ he)
    ·exact Or.inl h1
   have him:im % 65536=im:=Int.emod_eq_of_lt hi.1 hi.2
   have n1:¬ (op=0∧u=true∧(1:Int)=1):=fun h=>he ⟨h.1,h.2.1⟩
   cases v
   ·have e:m.reckons ⟨1,u,false,(A:Int),(B:Int),((0:Nat):Int),op,im⟩={ m with r:=m.r.set A (Alu.R op u (m.r.getD B 0) im m.h m.f),h:=Alu.H op u (m.r.getD B 0) im m.h,f:=Alu.F op u (m.r.getD B 0) im m.h m.f }:=by
     unfold Mc.reckons
     rw[if_neg n1,if_neg (fun h=>by cases h.2.2)]
     simp[Mc.reg,Mc.opnd,him]
    rw[e]
    exact cpu_reckons_1f S A B 0 op im u p mp ap ov m w h hA hB hi.1 hi.2 hu.1 he' hF hS
   ·have e:m.reckons ⟨1,u,true,(A:Int),(B:Int),((0:Nat):Int),op,im⟩={ m with r:=m.r.set A (Alu.R op u (m.r.getD B 0) (im+4294901760) m.h m.f),h:=Alu.H op u (m.r.getD B 0) (im+4294901760) m.h,f:=Alu.F op u (m.r.getD B 0) (im+4294901760) m.h m.f }:=by
     unfold Mc.reckons
     rw[if_neg n1,if_neg (fun h=>he ⟨h.1,h.2.1⟩)]
     simp[Mc.reg,Mc.opnd,him]
    rw[e]
    exact cpu_reckons_1t S A B 0 op im u p mp ap ov m w h hA hB hi.1 hi.2 hu.1 he' hF hS
theorem cpu_run (S:Nat→Prop) (n:Nat) (p mp ap:Nat) (ov:Value) (m:Mc) (w:World) (h:Mach w p mp ap ov m) (hn:(n:Int)≤4194304) (hF:Free S p ap ov) (hS:∀ k,S k→k<w.heap.size) :
  Calls Tryz.prog 43 #[.pointer (some ⟨p,0,none⟩),.int .i64 n] w fun e w'=>e=.returned (.tuple #[(m.run n).oc (m.steps n),.int .i64 0])∧Stored S p mp ap (m.run n) w w':=
 cpu_run_of reckons_all S n p mp ap ov m w h hn hF hS
end Go.Proofs.YtceflhffilldeaaGreat
namespace Go.Proofs.YtceflhffilldeaaGreat
open Go.RowKit Bw
end Go.Proofs.YtceflhffilldeaaGreat
namespace Go.Proofs.YtceflhffilldeaaGreat
open Go.RowKit Bw
theorem halt_66:((Mc.start ((haltIns 66).map Ins.E) 0 ⟨#[]⟩).run 100).en=1∧((Mc.start ((haltIns 66).map Ins.E) 0 ⟨#[]⟩).run 100).out=[66]∧(Mc.start ((haltIns 66).map Ins.E) 0 ⟨#[]⟩).steps 100=5 ∧
  ((Mc.start ((haltIns 66).map Ins.E) 0 ⟨#[]⟩).run 100).trap=0∧((Mc.start ((haltIns 66).map Ins.E) 0 ⟨#[]⟩).run 100).read=0:=by decide +kernel
theorem halt_words (b:Int) (h:b=65∨b=66):∀ x∈(haltIns b).map Ins.E,Mc.W32 x:=by
 have key:∀ y∈(haltIns b).map Ins.E,0≤y∧y<4294967296:=by
  rcases h with rfl | rfl<;>decide +kernel
 exact key
theorem oc_66:((Mc.start ((haltIns 66).map Ins.E) 0 ⟨#[]⟩).run 100).oc ((Mc.start ((haltIns 66).map Ins.E) 0 ⟨#[]⟩).steps 100)=.agg #[.int .i64 1,.int .i64 0,.string ⟨#[66]⟩,.int .i64 5,.int .i64 0]:=by
 obtain⟨h1,h2,h3,h4,h5⟩:=halt_66
 rw[Mc.oc,h1,h2,h3,h4,h5];rfl
theorem oc_none:((Mc.start [] 0 ⟨#[]⟩).run 1).oc ((Mc.start [] 0 ⟨#[]⟩).steps 1)=.agg #[.int .i64 5,.int .i64 0,.string ⟨#[]⟩,.int .i64 1,.int .i64 0]:=rfl
theorem Free.add {S:Nat→Prop} {p mp ap:Nat} {ov:Value} {m:Mc} {w:World} (h:Free S p ap ov) (hm:Mach w p mp ap ov m) {g:Nat} (hg:w.heap.size≤g):Free (fun k=>S k∨k=g) p ap ov:=by
 have h1:=hm.blk.lt
 have h2:=hm.mem.2.lt
 refine⟨?_,?_,fun b hb=>?_⟩
 ·rintro (h3 | h3)
  ·exact h.1 h3
  ·omega
 ·rintro (h3 | h3)
  ·exact h.2.1 h3
  ·omega
 ·have h4:=(hm.out.lt b hb).2
  rintro (h3 | h3)
  ·exact h.2.2 b hb h3
  ·omega
theorem Free.new {N p mp ap:Nat} (h1:N≤p) (h2:N≤ap):Free (fun k=>k<N) p ap (.slice none 0 0):=
 ⟨by omega,by omega,fun b hb=>by cases hb⟩
end Go.Proofs.YtceflhffilldeaaGreat
namespace Go.Proofs.YtceflhffilldeaaGreat
open Go.RowKit Bw
end Go.Proofs.YtceflhffilldeaaGreat
namespace Go.Proofs.YtceflhffilldeaaGreat
open Go.RowKit Bw
def Others (w:World) (p ap:Nat) (ov:Value) (k:Nat):Prop:=k<w.heap.size∧k≠p∧k≠ap∧ov.ownBlock≠some k
theorem Others.free (w:World) (p ap:Nat) (ov:Value):Free (Others w p ap ov) p ap ov:=
 ⟨fun h=>h.2.1 rfl,fun h=>h.2.2.1 rfl,fun b hb h=>h.2.2.2 hb⟩
theorem Others.blk {w:World} {p mp ap g:Nat} {ov:Value} {m:Mc} {t:TypeId} {cs:Array Value} (h:Mach w p mp ap ov m) (hb:Blk w g t cs) (h1:146≠t) (h2:37≠t) (h3:5≠t):Others w p ap ov g:=
 ⟨hb.lt,fun e=>Blk.ne_ (w:=w) h.blk hb h1 e.symm,fun e=>Blk.ne_ (w:=w) h.mem.2 hb h2 e.symm,fun e=>own_blk_ne h.out hb h3 g e rfl⟩
theorem Others.cells {w w':World} {p mp ap p2:Nat} {ov:Value} {m:Mc} {cs:Array Value} (h:Mach w p mp ap ov m) (h2:Blk w p2 146 cs) (hp:p2≠p) (hk:Kept (Others w p ap ov) w w'):Blk w' p2 146 cs:=
 h2.kept hk ⟨h2.lt,hp,fun e=>Blk.ne_ (w:=w) h.mem.2 h2 (by decide) e.symm,fun e=>own_blk_ne h.out h2 (by decide) p2 e rfl⟩
theorem Others.below {w w':World} {p mp ap N:Nat} {ov:Value} {m:Mc} (h:Mach w p mp ap ov m) (hk:Kept (Others w p ap ov) w w') (hN:N≤w.heap.size) (hp:N≤p) (ha:N≤ap) (ho:∀ b,ov.ownBlock=some b→N≤b):Below N w w':=
 hk.to_below fun k hlt=>⟨by omega,by omega,by omega,fun e=>by have:=ho k e;omega⟩
theorem cpu_run_o (n:Nat) (p mp ap:Nat) (ov:Value) (m:Mc) (w:World) (h:Mach w p mp ap ov m) (hn:(n:Int)≤4194304) :
  Calls Tryz.prog 43 #[.pointer (some ⟨p,0,none⟩),.int .i64 n] w fun e w'=>e=.returned (.tuple #[(m.run n).oc (m.steps n),.int .i64 0])∧Stored (Others w p ap ov) p mp ap (m.run n) w w':=
 cpu_run (Others w p ap ov) n p mp ap ov m w h hn (Others.free w p ap ov) (fun k hk=>hk.1)
def Ran (N:Nat) (w:World) (p mp ap:Nat) (ov:Value) (m':Mc) (w':World):Prop:=
 ∃ ov',Mach w' p mp ap ov' m'∧Kept (Others w p ap ov) w w'∧Below N w w'∧∀ b,ov'.ownBlock=some b→N≤b
theorem Ran.of {N:Nat} {w w':World} {p mp ap:Nat} {ov:Value} {m m':Mc} (h:Mach w p mp ap ov m) (hst:Stored (Others w p ap ov) p mp ap m' w w') (hN:N≤w.heap.size) (hp:N≤p) (ha:N≤ap) (ho:∀ b,ov.ownBlock=some b→N≤b):Ran N w p mp ap ov m' w':=by
 obtain⟨ov',hM,hK,hF,hS⟩:=hst
 refine⟨ov',hM,hK,Others.below h hK hN hp ha ho,fun b hb=>?_⟩
 have n1:=own_blk_ne hM.out hM.blk (by decide) b hb
 have n2:=own_blk_ne hM.out hM.mem.2 (by decide) b hb
 have n3:=hF.2.2 b hb
 rcases Nat.lt_or_ge b w.heap.size with h1 | h1
 ·by_cases h2:ov.ownBlock=some b
  ·exact ho b h2
  ·exact absurd ⟨h1,fun e=>n1 e.symm,fun e=>n2 e.symm,h2⟩ n3
 ·omega
theorem own_nil (N:Nat):∀ b,(Value.slice none 0 0).ownBlock=some b→N≤b:=fun b hb=>by cases hb
theorem cpu_run_n (N n:Nat) (p mp ap:Nat) (ov:Value) (m:Mc) (w:World) (h:Mach w p mp ap ov m) (hn:(n:Int)≤4194304) (hN:N≤w.heap.size) (hp:N≤p) (ha:N≤ap) (ho:∀ b,ov.ownBlock=some b→N≤b) :
  Calls Tryz.prog 43 #[.pointer (some ⟨p,0,none⟩),.int .i64 n] w fun e w'=>e=.returned (.tuple #[(m.run n).oc (m.steps n),.int .i64 0])∧Ran N w p mp ap ov (m.run n) w':=
 (cpu_run_o n p mp ap ov m w h hn).mono fun _ _ hh=>⟨hh.1,Ran.of h hh.2 hN hp ha ho⟩
def Mc.endv (m:Mc):Int:=if m.en=0 then 3 else m.en
theorem oc_form (m:Mc) (st:Nat):m.oc st=.agg #[.int .i64 m.endv,.int .i64 m.trap,.string (strOfNums m.out),.int .i64 st,.int .i64 m.read]:=rfl
end Go.Proofs.YtceflhffilldeaaGreat
namespace Go.Proofs.YtceflhffilldeaaGreat
set_option maxRecDepth 100000
open Go.Joins Go.ChangeShapes Go.WideShapes Go.RowKit Go.Deep
def MTab (w:World) (v:Value) (n:Nat) (D C:Nat→Int):Prop:=
 n≤9223372036854775807∧∃ A c,v=.slice A n c∧∀ i,i<n→∃ ad,A=some ad∧ad.block<w.heap.size∧w.cell? ((ad.add (i*6)).add 2)=some (.int .i64 (D i))∧w.cell? ((ad.add (i*6)).add 5)=some (.int .i64 (C i))
theorem MTab.below {w w':World} {v:Value} {n:Nat} {D C:Nat→Int} (h:MTab w v n D C) (hb:Below w.heap.size w w'):MTab w' v n D C:=by
 obtain⟨hm,A,c,rfl,hc⟩:=h
 refine⟨hm,A,c,rfl,fun i hi=>?_⟩
 obtain⟨ad,rfl,hl,h1,h2⟩:=hc i hi
 exact⟨ad,rfl,Nat.lt_of_lt_of_le hl hb.size,(hb.cell (p:=(ad.add (i*6)).add 2) (by rw[block_add,block_add];exact hl)).trans h1,(hb.cell (p:=(ad.add (i*6)).add 5) (by rw[block_add,block_add];exact hl)).trans h2⟩
section
variable {H:Type} {enc:TypeId×Value→H} {w:World} {base:Nat} {spare:Nat→Bool} {held:Bool}
end
end Go.Proofs.YtceflhffilldeaaGreat
namespace Go.Proofs.YtceflhffilldeaaGreat
open Go.RowKit Bw
theorem Ran.below {N:Nat} {w w':World} {p mp ap:Nat} {ov:Value} {m':Mc} (h:Ran N w p mp ap ov m' w'):Below N w w':=by
 obtain⟨ov',_,_,h3,_⟩:=h
 exact h3
theorem run_run (n:Nat) (l:List Int) (st:Int) (s:ByteArray) (vW vM:Value) (w:World) (h:Row .u32 w vW l) (hu:∀ x∈l,Mc.W32 x) (h0:Mc.noStart l st s=0) (hn:(n:Int)≤4194304) :
  Calls Tryz.prog 24 #[.agg #[vW,.int .i64 st,vM],.string s,.int .i64 n] w fun e w'=>e=.returned (.tuple #[((Mc.start l st s).run n).oc ((Mc.start l st s).steps n),.int .i64 0])∧Below w.heap.size w w':=by
 obtain⟨hl,hs,hs0,hs1⟩:=cpu_start_any l st s h0
 have B1:Below w.heap.size w (w.alloc (.cells #[vW,.int .i64 st,vM] 33)):=(Below.refl _ _).alloc (Nat.le_refl _) _
 have B2:=B1.alloc B1.size (.cells #[.int .i64 0,.int .i64 0,.string ⟨#[]⟩,.int .i64 0,.int .i64 0] 70)
 have h':=zh (h.below B2)
 have BO:=zh (Blk.new (w.alloc (.cells #[vW,.int .i64 st,vM] 33)) 70 #[.int .i64 0,.int .i64 0,.string ⟨#[]⟩,.int .i64 0,.int .i64 0])
 have CN:=fun W hW=>zh (cpu_new l st s vW W hW hu hl hs hs0 hs1)
 have sz:(w.alloc (.cells #[vW,.int .i64 st,vM] 33)).heap.size=w.heap.size+1:=by simp
 rw[sz] at BO
 have hgB:w.heap.size+1<((w.alloc (.cells #[vW,.int .i64 st,vM] 33)).alloc (.cells #[.int .i64 0,.int .i64 0,.string ⟨#[]⟩,.int .i64 0,.int .i64 0] 70)).heap.size:=by simp
 have hgB:=zh hgB
 have hB2:=zh B2
 clear hu h0 B1 B2 sz
 go_enter Tryz.func24,Tryz.ntmps24
 go_wp2_with fail
 generalize hW:(w.alloc (.cells #[vW,.int .i64 st,vM] 33)).alloc (.cells #[.int .i64 0,.int .i64 0,.string ⟨#[]⟩,.int .i64 0,.int .i64 0] 70)=W at *
 clear hW
 refine(CN W h'.out).out.mono ?_
 rintro e w2 ⟨p,mp,ap,rfl,hp,hmp,hap,hM,hb⟩
 have BO2:=zh (BO.out.below hb hgB.out)
 have B3:=zh (hB2.out.trans (hb.mono hB2.out.size))
 have RU:=zh (cpu_run_n W.heap.size n p mp ap _ _ w2 hM hn hb.size hp hap (own_nil _))
 have hM:=zh hM
 have hbs:=zh hb.size
 clear hp hmp hap hb CN
 go_wp2_with fail
 refine RU.out.mono ?_
 rintro e w3 ⟨rfl,hran⟩
 rw[oc_form]
 have BO3:=BO2.out.below hran.below hgB.out
 have b0:=BO3.cell 0
 have b1:=BO3.cell 1
 have b2:=BO3.cell 2
 have b3:=BO3.cell 3
 have b4:=BO3.cell 4
 simp only[gAr,gC0,gCs] at b0 b1 b2 b3 b4
 have g0:=BO3.frozen 0
 have g1:=BO3.frozen 1
 have g2:=BO3.frozen 2
 have g3:=BO3.frozen 3
 have g4:=BO3.frozen 4
 have hz:=BO3.lt
 have B4:=zh (B3.out.trans (hran.below.mono hB2.out.size))
 clear BO3 hran BO2 BO
 go_wp2_with fail
 refine bodyPost_ret (by simp only[results,Tryz.results24];go_simp;rfl) rfl ⟨?_,?_⟩
 ·rw[oc_form]
 ·exact(((((B4.out.setCell (p:=⟨w.heap.size+1,0,none⟩) (by simp) _).setCell (p:=⟨w.heap.size+1,1,none⟩) (by simp) _).setCell (p:=⟨w.heap.size+1,2,none⟩) (by simp) _).setCell (p:=⟨w.heap.size+1,3,none⟩) (by simp) _).setCell (p:=⟨w.heap.size+1,4,none⟩) (by simp) _)
theorem law27_wakes (w:World):Calls Tryz.prog 22 #[] w fun e w'=>e=.returned (.bool true)∧Below w.heap.size w w':=by
 go_enter Tryz.func22,Tryz.ntmps22
 go_wp2_with fail
 refine(law05_halt 66 w (by decide) (by decide)).mono ?_
 rintro e w1 ⟨v,rfl,ho,hb1⟩
 have hb1:=zh hb1
 obtain⟨L,hL⟩:∃ L,(haltIns 66).map Ins.E=L:=⟨_,rfl⟩
 rw[hL] at ho
 have hr:=zh (row_of_own ho)
 clear ho
 obtain⟨hm,A,c,rfl,hc⟩:=hr.out
 clear hc
 have hW:=zh (halt_words 66 (Or.inr rfl))
 have hN:Hid (Mc.noStart L 0 ⟨#[]⟩=0):=zh (by rw[← hL];decide)
 have hoc:=zh oc_66
 rw[hL] at hW hoc
 have hL:=zh hL
 go_wp2_with fail
 refine(run_run 100 L 0 ⟨#[]⟩ _ (.slice none 0 0) w1 hr.out hW.out hN.out (by decide)).mono ?_
 rintro e w2 ⟨rfl,hb2⟩
 rw[hoc.out]
 have BK:=zh (Blk.new w2 70 #[.int .i64 1,.int .i64 0,.string ⟨#[66]⟩,.int .i64 5,.int .i64 0])
 have hg:w2.heap.size<(w2.alloc (.cells #[.int .i64 1,.int .i64 0,.string ⟨#[66]⟩,.int .i64 5,.int .i64 0] 70)).heap.size:=by simp
 have hg:=zh hg
 have B2:=hb1.out.trans (hb2.mono hb1.out.size)
 have B3:=zh (B2.alloc B2.size (.cells #[.int .i64 1,.int .i64 0,.string ⟨#[66]⟩,.int .i64 5,.int .i64 0] 70))
 clear hb2 hr hb1 B2
 go_wp2_with fail
 generalize hW:w2.alloc (.cells #[.int .i64 1,.int .i64 0,.string ⟨#[66]⟩,.int .i64 5,.int .i64 0] 70)=W at *
 clear hW
 refine(run_run 1 [] 0 ⟨#[]⟩ (.slice none 0 0) (.slice none 0 0) W Row.nil_ (by simp) (by decide) (by decide)).mono ?_
 rintro e w3 ⟨rfl,hb3⟩
 rw[oc_none]
 have BK3:=BK.out.below hb3 hg.out
 have b0:=BK3.cell 0
 have b2:=BK3.cell 2
 simp only[gAr,gC0,gCs] at b0 b2
 have hz:=BK3.lt
 have B4:=B3.out.trans (hb3.mono B3.out.size)
 have B5:=zh (B4.alloc B4.size (.cells #[.int .i64 5,.int .i64 0,.string ⟨#[]⟩,.int .i64 1,.int .i64 0] 70))
 clear BK3 hb3 B4 BK
 go_wp2_with fail
 go_ret
 exact⟨rfl,B5.out⟩
end Go.Proofs.YtceflhffilldeaaGreat
