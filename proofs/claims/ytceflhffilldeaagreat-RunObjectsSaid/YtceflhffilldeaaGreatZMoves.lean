/-
  Joined: ZMoves.
-/
import Derived.Test.YtceflhffilldeaaGreatZMem
import Derived.Test.YtceflhffilldeaaGreatZAluAll
import Derived.Deep.MidRow
import Derived.Deep.AppendLies
import Derived.Deep.RegionHeld3
import Derived.BigRegion
set_option linter.unusedVariables false
set_option linter.unusedSimpArgs false
set_option maxRecDepth 100000
set_option maxHeartbeats 16000000
namespace Go.Proofs.YtceflhffilldeaaGreat
open Go.RowKit Bw
theorem kept_ne {S:Nat→Prop} {p:Nat} {w w':World} (h:Kept (fun k=>k≠p) w w') (hS:¬ S p):Kept S w w':=h.mono fun k hk e=>hS (e ▸ hk)
theorem Kept.cell_ (w:World) (p k:Nat) (v:Value):Kept (fun b=>b≠p) w (w.setCell ⟨p,k,none⟩ v):=(Kept.refl _ w).setCell (p:=⟨p,k,none⟩) (fun e=>e rfl) v
theorem Kept.then_ {S:Nat→Prop} {a w:World} (h:Kept S a w) {p:Nat} (hS:¬ S p) (k:Nat) (v:Value):Kept S a (w.setCell ⟨p,k,none⟩ v):=h.setCell (p:=⟨p,k,none⟩) hS v
theorem sets_eq (m:Mc) (a:Nat) (v:Int) (hv:Mc.W32 v):m.sets a v={ m with r:=m.r.set a v,f:={ { m.f with n:=(v / 2147483648==1) } with z:=(v==0) } }:=by
 have h1:decide (2147483648≤v)=(v / 2147483648==1):=by
  unfold Mc.W32 at hv
  rw[Bool.eq_iff_iff,decide_eq_true_eq,beq_iff_eq];omega
 have h2:decide (v=0)=(v==0):=rfl
 unfold Mc.sets
 rw[h1,h2]
 rfl
theorem cpu_sets (a:Nat) (v:Int) (p mp ap:Nat) (ov:Value) (m:Mc) (w:World) (h:Mach w p mp ap ov m) (ha:a<16) (hv:Mc.W32 v) :
  Calls Tryz.prog 129 #[.pointer (some ⟨p,0,none⟩),.int .i64 a,.int .u32 v] w fun e w'=>e=.returned (.tuple #[])∧Mach w' p mp ap ov (m.sets a v)∧Kept (fun k=>k≠p) w w':=by
 have c0:=h.reg a ha
 have f0:=h.froz a
 have c17:=h.fn
 have f17:=h.froz 17
 have c18:=h.fz
 have f18:=h.froz 18
 have n17:¬ a=17:=by omega
 have n18:¬ a=18:=by omega
 have h:=zh h
 have hv':=zh hv
 have hv1:=hv.1
 have hv2:=hv.2
 go_enter Tryz.func129,Tryz.ntmps129
 go_wp2_with fail
 go_end0
 refine⟨rfl,?_,((Kept.cell_ w p a _).then_ (fun e=>e rfl) 17 _).then_ (fun e=>e rfl) 18 _⟩
 rw[sets_eq m a v hv'.out]
 exact((h.out.set_r a v ha hv'.out).set_n _).set_z _
def packs (f:Fl) (k:Nat):Int:=(if 0<k∧f.v=true then 268435456 else 0)+(if 1<k∧f.c=true then 536870912 else 0)+(if 2<k∧f.z=true then 1073741824 else 0)+(if 3<k∧f.n=true then 2147483648 else 0)
theorem packs_end (f:Fl):packs f 4=Mc.packed f:=by
 obtain⟨n,z,c,v⟩:=f
 cases n<;>cases z<;>cases c<;>cases v<;>decide
theorem index4_0 (a b c d:Bool) (W:World):(Instr.index 235 (.agg #[.bool a,.bool b,.bool c,.bool d]) (.int .i64 0)).run Tryz.prog W=.ok (.bool a) W:=by
 kernel_rfl
theorem index4_1 (a b c d:Bool) (W:World):(Instr.index 235 (.agg #[.bool a,.bool b,.bool c,.bool d]) (.int .i64 1)).run Tryz.prog W=.ok (.bool b) W:=by
 kernel_rfl
theorem index4_2 (a b c d:Bool) (W:World):(Instr.index 235 (.agg #[.bool a,.bool b,.bool c,.bool d]) (.int .i64 2)).run Tryz.prog W=.ok (.bool c) W:=by
 kernel_rfl
theorem index4_3 (a b c d:Bool) (W:World):(Instr.index 235 (.agg #[.bool a,.bool b,.bool c,.bool d]) (.int .i64 3)).run Tryz.prog W=.ok (.bool d) W:=by
 kernel_rfl
theorem cpu_packed (f:Fl) (w:World):Calls Tryz.prog 131 #[f.val] w fun e w'=>e=.returned (.int .u32 (Mc.packed f))∧Below w.heap.size w w':=by
 rw[← packs_end]
 obtain⟨n,z,c,v⟩:=f
 simp only[Fl.val,Fl.cells]
 have B0:Below w.heap.size w (w.alloc (.cells #[.bool n,.bool z,.bool c,.bool v] 144)):=(Below.refl _ _).alloc (Nat.le_refl _) _
 have x0:=index4_0
 have x1:=index4_1
 have x2:=index4_2
 have x3:=index4_3
 go_enter Tryz.func131,Tryz.ntmps131
 go_wp2_with fail
 go_loop [3,15] (fun r i=>∃ k:Nat,i=.int .i64 k∧k≤4∧r=.int .u32 (packs ⟨n,z,c,v⟩ k)) (fun _ i=>4-(intOf i).toNat)
 case atStart=>exact⟨0,rfl,by omega,by simp[packs]⟩
 case round=>
  obtain⟨k,rfl,hk,rfl⟩:=hrel
  have h5:k=0∨k=1∨k=2∨k=3∨k=4:=by omega
  rcases h5 with rfl | rfl | rfl | rfl | rfl
  ·cases v<;>(go_wp2_with (go_at_call 159;refine(bits_put _ _ _ _ _ (by simp[packs]<;>(try split)<;>omega) (by simp[packs]<;>(try split)<;>omega) (by omega) (by omega) (by omega) (by omega) (by omega) (by omega)).mono ?_;rintro e w' ⟨rfl,rfl⟩);refine⟨⟨1,rfl,by omega,by cases n<;>cases z<;>cases c<;>exact congrArg (Value.int .u32) (by decide +kernel)⟩,by simp[intOf]⟩)
  ·cases c<;>(go_wp2_with (go_at_call 159;refine(bits_put _ _ _ _ _ (by cases v<;>simp[packs]) (by cases v<;>simp[packs]) (by omega) (by omega) (by omega) (by omega) (by omega) (by omega)).mono ?_;rintro e w' ⟨rfl,rfl⟩);refine⟨⟨2,rfl,by omega,by cases n<;>cases z<;>cases v<;>exact congrArg (Value.int .u32) (by decide +kernel)⟩,by simp[intOf]⟩)
  ·cases z<;>(go_wp2_with (go_at_call 159;refine(bits_put _ _ _ _ _ (by cases v<;>cases c<;>simp[packs]) (by cases v<;>cases c<;>simp[packs]) (by omega) (by omega) (by omega) (by omega) (by omega) (by omega)).mono ?_;rintro e w' ⟨rfl,rfl⟩);refine⟨⟨3,rfl,by omega,by cases n<;>cases c<;>cases v<;>exact congrArg (Value.int .u32) (by decide +kernel)⟩,by simp[intOf]⟩)
  ·cases n<;>(go_wp2_with (go_at_call 159;refine(bits_put _ _ _ _ _ (by cases v<;>cases c<;>cases z<;>simp[packs]) (by cases v<;>cases c<;>cases z<;>simp[packs]) (by omega) (by omega) (by omega) (by omega) (by omega) (by omega)).mono ?_;rintro e w' ⟨rfl,rfl⟩);refine⟨⟨4,rfl,by omega,by cases z<;>cases c<;>cases v<;>exact congrArg (Value.int .u32) (by decide +kernel)⟩,by simp[intOf]⟩)
  ·go_wp2_with fail
   go_ret
   exact⟨rfl,B0⟩
end Go.Proofs.YtceflhffilldeaaGreat
namespace Go.Proofs.YtceflhffilldeaaGreat
open Go.RowKit Bw
theorem u8_info:(Tryz.prog.info? 5).map (fun i=>(i.zero,i.size,i.bytes))=some (some (.int .u8 0),1,1):=by kernel_rfl
theorem cs_add0 (g j:Nat):(⟨g,0,none⟩:Addr).add j=⟨g,j,none⟩:=by rw[Addr.add_mid];simp
theorem cs_news1 (w:World) (t:TypeId) (v:Value):∀ (j:Nat) (u:Value),[v][j]?=some u→(w.alloc (.cells #[v] t)).cell? ((⟨w.heap.size,0,none⟩:Addr).add j)=some u:=by
 intro j u hj
 rw[cs_add0,cell_of_row _ _ j _ _ _ (heap_alloc_new w (.cells #[v] t))]
 simpa using hj
theorem Mach.set_mem {w:World} {p mp ap:Nat} {ov:Value} {m:Mc} (h:Mach w p mp ap ov m) (k:Nat) (x:Int) (hx:Mc.W32 x):Mach (w.setCell ⟨ap,k,none⟩ (.int .u32 x)) p mp ap ov { m with mem:=m.mem.set k x }:=
 ⟨⟨h.ok.r,h.ok.rb,h.ok.h,h.ok.pc,by simp[h.ok.ml],Mc.set_all h.ok.mb hx,h.ok.il,h.ok.rd,h.ok.ol,h.ok.ob⟩,h.blk.far (p:=⟨ap,k,none⟩) (h.blk.ne_ h.mem.2 (by decide)) _,h.mem.set_ k x,
  own_kept_cpu (S:=fun b=>b≠ap) h.out ((Kept.refl _ w).setCell (p:=⟨ap,k,none⟩) (fun e=>e rfl) _) (fun b hb e=>own_blk_ne h.out h.mem.2 (by decide) b hb e.symm)⟩
theorem own_ne_cpu {w:World} {g base n s:Nat} {t e:TypeId} {v:Value} {xs:List Value} {cs:Array Value} (h:w.ownsRow base e s v n xs) (hb:Blk w g t cs) (hne:e≠t):some g≠v.ownBlock:=fun e=>own_blk_ne h hb hne g e.symm rfl
theorem Mach.put {w w2:World} {p mp ap g cap:Nat} {ov:Value} {m:Mc} (h:Mach w p mp ap ov m) (hg:w.grownBy w2 ov.ownBlock) (x:Int) (hx:0≤x∧x<256) (hl:m.out.length+1≤4096) (hown:w2.ownsRow 0 5 1 (.slice (some ⟨g,0,none⟩) (m.out.length+1) cap) (m.out.length+1) (m.out.map (Value.int .u8)++[.int .u8 x])) :
  Mach (w2.setCell ⟨p,25,none⟩ (.slice (some ⟨g,0,none⟩) (m.out.length+1) cap)) p mp ap (.slice (some ⟨g,0,none⟩) (m.out.length+1) cap) { m with out:=m.out++[x] }:=by
 have b2:Blk w2 p 146 (mcells m mp ov):=h.blk.grown hg (own_ne_cpu h.out h.blk (by decide))
 have m2:MemAt w2 mp ap m.mem:=⟨h.mem.1.grown hg (own_ne_cpu h.out h.mem.1 (by decide)),h.mem.2.grown hg (own_ne_cpu h.out h.mem.2 (by decide))⟩
 refine⟨⟨h.ok.r,h.ok.rb,h.ok.h,h.ok.pc,h.ok.ml,h.ok.mb,h.ok.il,h.ok.rd,by simpa using hl,?_⟩,?_,⟨m2.1.far (p:=⟨p,25,none⟩) (m2.1.ne_ b2 (by decide)) _,m2.2.far (p:=⟨p,25,none⟩) (m2.2.ne_ b2 (by decide)) _⟩,?_⟩
 ·intro y hy
  rcases List.mem_append.1 hy with h1 | h1
  ·exact h.ok.ob y h1
  ·simp at h1;subst h1;exact hx
 ·have:=b2.set_ 25 (.slice (some ⟨g,0,none⟩) (m.out.length+1) cap)
  rw[show (25:Nat)=16+9 from rfl,mset m h.ok mp ov _ 9] at this
  exact this
 ·have h3:w2.ownsRow 0 5 1 (.slice (some ⟨g,0,none⟩) (m.out.length+1) cap) (m.out++[x]).length ((m.out++[x]).map (Value.int .u8)):=by rw[List.map_append,List.length_append];exact hown
  exact own_kept_cpu (S:=fun b=>b≠p) h3 ((Kept.refl _ w2).setCell (p:=⟨p,25,none⟩) (fun e=>e rfl) _) (fun b hb e=>own_blk_ne h3 b2 (by decide) b hb e.symm)
theorem Mach.out_cell {w w2:World} {p mp ap:Nat} {ov:Value} {m:Mc} (h:Mach w p mp ap ov m) (hg:w.grownBy w2 ov.ownBlock):w2.cell? ⟨p,25,none⟩=some ov∧w2.frozen? ⟨p,25,none⟩=false:=by
 have b2:Blk w2 p 146 (mcells m mp ov):=h.blk.grown hg (own_ne_cpu h.out h.blk (by decide))
 exact⟨(b2.cell 25).trans (mcells_tail h.ok mp ov 9),b2.frozen 25⟩
def Stored (S:Nat→Prop) (p mp ap:Nat) (m':Mc) (w w':World):Prop:=∃ ov',Mach w' p mp ap ov' m'∧Kept S w w'∧Free S p ap ov'∧(∀ k,S k→k<w'.heap.size)
theorem Stored.en {S:Nat→Prop} {p mp ap:Nat} {ov:Value} {m:Mc} {w w0:World} (h:Mach w p mp ap ov m) (hk:Kept S w0 w) (hF:Free S p ap ov) (hS:∀ k,S k→k<w.heap.size) (v:Int):Stored S p mp ap { m with en:=v } w0 (w.setCell ⟨p,26,none⟩ (.int .i64 v)):=
 ⟨ov,h.set_en v,hk.setCell (p:=⟨p,26,none⟩) hF.1 _,hF,fun k hk=>by simpa [World.setCell] using hS k hk⟩
theorem cpu_stores (S:Nat→Prop) (at_ v:Int) (small:Bool) (p mp ap:Nat) (ov:Value) (m:Mc) (w:World) (h:Mach w p mp ap ov m) (ha:Mc.W32 at_) (hv:Mc.W32 v) (hF:Free S p ap ov) (hS:∀ k,S k→k<w.heap.size) :
  Calls Tryz.prog 127 #[.pointer (some ⟨p,0,none⟩),.int .u32 at_,.int .u32 v,.bool small] w fun e w'=>e=.returned (.tuple #[])∧Stored S p mp ap (m.stores at_ v small) w w':=by
 have c22:=h.mem_
 have c25:=h.out_
 have c26:=h.en_
 have c27:=h.trap_
 have f25:=h.froz 25
 have f26:=h.froz 26
 have f27:=h.froz 27
 have h:=zh h
 have hF:=zh hF
 have hS:=zh hS
 have hv':=zh hv
 obtain⟨ha0,ha1⟩:=ha
 obtain⟨hv0,hv1⟩:=hv
 by_cases e1:at_=4294967240
 ·subst e1
  by_cases e2:m.out.length=4096
  ·have hr:m.stores 4294967240 v small={ m with en:=6 }:=by rw[Mc.stores,if_pos rfl,if_pos e2]
   rw[hr]
   have hlen:((m.out.length:Int)==4096)=true:=by rw[beq_iff_eq];omega
   obtain⟨A,c,hov⟩:∃ A c,ov=.slice A m.out.length c:=by
    rcases h.out.out.2 with ⟨rfl,h2⟩ | ⟨g,cap,cur,rfl,-⟩
    ·rw[h2];exact⟨_,_,rfl⟩
    ·exact⟨_,_,rfl⟩
   subst hov
   clear hr e2
   go_enter Tryz.func127,Tryz.ntmps127
   go_wp2_with fail
   refine bodyPost_ret (results_none rfl _ _ _) rfl ?_
   exact⟨rfl,Stored.en h.out (Kept.refl S w) hF.out hS.out 6⟩
  ·have hr:m.stores 4294967240 v small={ m with out:=m.out++[v % 256] }:=by rw[Mc.stores,if_pos rfl,if_neg e2]
   rw[hr]
   have hol:=h.out.ok.ol
   have hlen:((m.out.length:Int)==4096)=false:=by rw[beq_eq_false_iff_ne];omega
   obtain⟨A,c,hov⟩:∃ A c,ov=.slice A m.out.length c:=by
    rcases h.out.out.2 with ⟨rfl,h2⟩ | ⟨g,cap,cur,rfl,-⟩
    ·rw[h2];exact⟨_,_,rfl⟩
    ·exact⟨_,_,rfl⟩
   subst hov
   obtain⟨i0,hi0,hz0,hz1,hz2⟩:=info_parts u8_info
   have hpl:=h.out.blk.lt
   clear hr
   go_enter Tryz.func127,Tryz.ntmps127
   go_wp2_with (at_builtin;refine wpList_append_lies _ rfl (.tmp 32) (.tmp 35) 86 rfl 0 5 i0 _ 1 1 Tryz.underlying86 hi0 hz0 hz1 hz2 rfl (by omega) _ m.out.length _ rfl (h.out.out.alloc _) ⟨w.heap.size,0,none⟩ 1 1 [.int .u8 (v % 256)] rfl rfl (cs_news1 w _ _) (by simp[Value.oneCell']) (by omega) (by simp only[maxLen];omega) (by omega) (Nat.zero_le _) (w.heap.size+1) (by simp) ?_;intro g cap w2 hown2 hg2 hgg hlt2;obtain⟨cc,fc⟩:=(h.out.alloc _).out_cell hg2)
   go_end0
   refine⟨rfl,_,(h.out.alloc _).put hg2 (v % 256) (by omega) (by omega) hown2,?_,?_,fun k hk=>?_⟩
   ·exact(((Kept.refl S w).alloc hS.out _).grown hg2 (fun k hk=>by have:=hS.out k hk;simp;omega) (fun k hk hs=>hF.out.2.2 k hk hs)).setCell (p:=⟨p,25,none⟩) hF.out.1 _
   ·refine⟨hF.out.1,hF.out.2.1,fun b hb hs=>?_⟩
    have hb':g=b:=by simpa [Value.ownBlock] using hb
    subst hb'
    rcases hgg with h1 | h1
    ·exact hF.out.2.2 g h1 hs
    ·have:=hS.out g hs
     omega
   ·have h1:=hS.out k hk
    have h2:=hg2.size
    simp[World.setCell] at h2 ⊢
    omega
 by_cases e2:at_=4294967236
 ·subst e2
  have hr:m.stores 4294967236 v small={ m with en:=2,trap:=wrap32 v }:=by rw[Mc.stores,if_neg (by decide),if_pos rfl]
  rw[hr]
  have SG:=fun W=>zh (bits_signed v W hv0 hv1)
  go_enter Tryz.func127,Tryz.ntmps127
  go_wp2_with fail
  refine(SG _).out.mono ?_
  rintro e w1 ⟨rfl,rfl⟩
  go_wp2_with fail
  go_end0
  refine⟨rfl,ov,(h.out.set_en 2).set_trap (wrap32 v),((Kept.refl S w).setCell (p:=⟨p,26,none⟩) hF.out.1 _).setCell (p:=⟨p,27,none⟩) hF.out.1 _,hF.out,fun k hk=>by simpa [World.setCell] using hS.out k hk⟩
 by_cases e3:at_=4294967232
 ·subst e3
  have hr:m.stores 4294967232 v small={ m with en:=1 }:=by rw[Mc.stores,if_neg (by decide),if_neg (by decide),if_pos rfl]
  rw[hr]
  go_enter Tryz.func127,Tryz.ntmps127
  go_wp2_with fail
  go_end0
  exact⟨rfl,Stored.en h.out (Kept.refl S w) hF.out hS.out 1⟩
 obtain⟨k,hk⟩:∃ k:Nat,at_ / 4=(k:Int):=⟨(at_ / 4).toNat,by omega⟩
 have hml:=h.out.ok.ml
 have hmb:=h.out.ok.mb
 have e1':(at_==4294967240)=false:=by rw[beq_eq_false_iff_ne];exact e1
 have e2':(at_==4294967236)=false:=by rw[beq_eq_false_iff_ne];exact e2
 have e3':(at_==4294967232)=false:=by rw[beq_eq_false_iff_ne];exact e3
 have hth:m.there at_=decide (k<m.mem.length):=by
  rw[Mc.there,hk,Mc.size]
  exact decide_eq_decide.2 (by omega)
 have hkt:(at_ / 4).toNat=k:=by rw[hk];exact Int.toNat_natCast k
 cases small
 ·cases hok:(at_ % 4==0 && decide (k<m.mem.length))
  ·have hr:m.stores at_ v false={ m with en:=5 }:=by
    rw[Mc.stores,if_neg e1,if_neg e2,if_neg e3,Mc.loadOk,hth,Bool.false_or,hok];rfl
   rw[hr]
   have ST:=zh (mem_store mp ap k at_ v m.mem w h.out.mem hk ha0 ha1 hml false hok)
   clear hr hok hth hkt hk e1 e2 e3
   go_enter Tryz.func127,Tryz.ntmps127
   go_wp2_with fail
   refine ST.out.mono ?_
   rintro e w1 ⟨rfl,hw1⟩
   have hw2:w=w1:=by simpa using hw1.symm
   subst hw2
   clear hw1
   go_wp2_with fail
   go_end0
   exact⟨rfl,Stored.en h.out (Kept.refl S w) hF.out hS.out 5⟩
  ·have hr:m.stores at_ v false={ m with mem:=m.mem.set k v }:=by
    rw[Mc.stores,if_neg e1,if_neg e2,if_neg e3,Mc.loadOk,hth,Bool.false_or,hok,if_pos rfl,hkt];rfl
   rw[hr]
   have ST:=zh (mem_store mp ap k at_ v m.mem w h.out.mem hk ha0 ha1 hml true hok)
   clear hr hok hth hkt hk e1 e2 e3
   go_enter Tryz.func127,Tryz.ntmps127
   go_wp2_with fail
   refine ST.out.mono ?_
   rintro e w1 ⟨rfl,hw1⟩
   simp only[if_true] at hw1
   subst hw1
   go_wp2_with fail
   go_end0
   exact⟨rfl,ov,h.out.set_mem k v hv'.out,(Kept.refl S w).setCell (p:=⟨ap,k,none⟩) hF.out.2.1 _,hF.out,fun k hk=>by simpa [World.setCell] using hS.out k hk⟩
 ·cases hok:decide (k<m.mem.length)
  ·have hr:m.stores at_ v true={ m with en:=5 }:=by
    rw[Mc.stores,if_neg e1,if_neg e2,if_neg e3,Mc.loadOk,hth,Bool.true_or,Bool.true_and,hok];rfl
   rw[hr]
   have ST:=zh (mem_putbyte mp ap k at_ v m.mem w h.out.mem hk ha0 ha1 hml hmb hv'.out false hok)
   clear hr hok hth hkt hk e1 e2 e3
   go_enter Tryz.func127,Tryz.ntmps127
   go_wp2_with fail
   refine ST.out.mono ?_
   rintro e w1 ⟨rfl,hw1⟩
   have hw2:w=w1:=by simpa using hw1.symm
   subst hw2
   clear hw1
   go_wp2_with fail
   go_end0
   exact⟨rfl,Stored.en h.out (Kept.refl S w) hF.out hS.out 5⟩
  ·have hr:m.stores at_ v true={ m with mem:=m.mem.set k (Mc.turned (m.mem.getD k 0) at_ v) }:=by
    rw[Mc.stores,if_neg e1,if_neg e2,if_neg e3,Mc.loadOk,hth,Bool.true_or,Bool.true_and,hok,if_pos rfl,Mc.word,hkt];rfl
   rw[hr]
   have hx:=Mc.turned_bd (m.mem.getD k 0) at_ v (h.out.ok.word k)
   have ST:=zh (mem_putbyte mp ap k at_ v m.mem w h.out.mem hk ha0 ha1 hml hmb hv'.out true hok)
   clear hr hok hth hkt hk e1 e2 e3
   generalize Mc.turned (m.mem.getD k 0) at_ v=tv at *
   go_enter Tryz.func127,Tryz.ntmps127
   go_wp2_with fail
   refine ST.out.mono ?_
   rintro e w1 ⟨rfl,hw1⟩
   simp only[if_true] at hw1
   subst hw1
   go_wp2_with fail
   go_end0
   exact⟨rfl,ov,h.out.set_mem k tv hx,(Kept.refl S w).setCell (p:=⟨ap,k,none⟩) hF.out.2.1 _,hF.out,fun k hk=>by simpa [World.setCell] using hS.out k hk⟩
end Go.Proofs.YtceflhffilldeaaGreat
namespace Go.Proofs.YtceflhffilldeaaGreat
open Go.RowKit Bw
theorem Free.alloc {S:Nat→Prop} {p ap:Nat} {ov:Value} (h:Free S p ap ov):Free S p ap ov:=h
theorem Stored.from_ {S:Nat→Prop} {p mp ap:Nat} {m':Mc} {w w1 w2:World} (h:Stored S p mp ap m' w1 w2) (hk:Kept S w w1):Stored S p mp ap m' w w2:=by
 obtain⟨ov',h1,h2,h3,h4⟩:=h
 exact⟨ov',h1,hk.trans h2,h3,h4⟩
theorem u32_sum (r im:Int):IntKind.u32.wrap (r+IntKind.u32.wrap im)=(r+im) % 4294967296:=by
 rw[IntKind.wrap_u32,IntKind.wrap_u32];omega
theorem cpu_moves_store (S:Nat→Prop) (v:Bool) (A B:Nat) (c op im:Int) (p mp ap:Nat) (ov:Value) (m:Mc) (w:World) (h:Mach w p mp ap ov m) (hA:A<16) (hB:B<16) (i0:-524288≤im) (i1:im<524288) (hF:Free S p ap ov) (hS:∀ k,S k→k<w.heap.size) :
  Calls Tryz.prog 98 #[.pointer (some ⟨p,0,none⟩),Ins.val ⟨2,true,v,A,B,c,op,im⟩] w fun e w'=>e=.returned (.tuple #[])∧Stored S p mp ap (m.stores ((m.r.getD B 0+im) % 4294967296) (m.r.getD A 0) v) w w':=by
 simp only[Ins.val,Ins.cells]
 have L0:=Blk.new w 128 #[.int .i64 2,.bool true,.bool v,.int .i64 A,.int .i64 B,.int .i64 c,.int .i64 op,.int .i64 im]
 have h1:=zh (h.alloc (.cells #[.int .i64 2,.bool true,.bool v,.int .i64 A,.int .i64 B,.int .i64 c,.int .i64 op,.int .i64 im] 128))
 have rA:=h1.out.reg A hA
 have rB:=h1.out.reg B hB
 have bA:=h.ok.reg (A:Int)
 have bB:=h.ok.reg (B:Int)
 have K1:Kept S w (w.alloc (.cells #[.int .i64 2,.bool true,.bool v,.int .i64 A,.int .i64 B,.int .i64 c,.int .i64 op,.int .i64 im] 128)):=(Kept.refl S w).alloc hS _
 have S1:∀ k,S k→k<(w.alloc (.cells #[.int .i64 2,.bool true,.bool v,.int .i64 A,.int .i64 B,.int .i64 c,.int .i64 op,.int .i64 im] 128)).heap.size:=fun k hk=>by have:=hS k hk;simp;omega
 simp only[Mc.reg,Int.toNat_natCast] at bA bB
 have K1:=zh K1
 have S1:=zh S1
 have hS:=zh hS
 have hF:=zh hF
 have hA':(A:Int)<16:=by omega
 have hB':(B:Int)<16:=by omega
 generalize m.r.getD A 0=xa at *
 generalize m.r.getD B 0=xb at *
 have hsum:=u32_sum xb im
 have hat:Mc.W32 ((xb+im) % 4294967296):=by unfold Mc.W32;omega
 generalize (xb+im) % 4294967296=AT at *
 have ST:=fun W (hm:Mach W p mp ap ov m) hSW=>zh (cpu_stores S AT xa v p mp ap ov m W hm hat bA hF.out hSW)
 clear h
 go_enter Tryz.func98,Tryz.ntmps98
 go_wp2_with fail
 refine region_drew 11 (by kernel_rfl) (by kernel_rfl) ?_
 simp only[List.take_succ_cons,List.take_zero,List.drop_succ_cons,List.drop_zero]
 repeat still_step
 refine wpStill_nil ?_
 go_wp2_with fail
 refine region_drew 11 (by kernel_rfl) (by kernel_rfl) ?_
 simp only[List.take_succ_cons,List.take_zero,List.drop_succ_cons,List.drop_zero]
 repeat still_step
 refine wpStill_nil ?_
 go_wp2_with (go_at_call 127;refine(ST _ h1.out.drew.drew S1.out).out.mono ?_;rintro e w2 ⟨rfl,hst⟩)
 refine bodyPost_ret (results_none rfl _ _ _) rfl ?_
 exact⟨rfl,hst.from_ K1.out.drew.drew⟩
theorem Stored.sets {S:Nat→Prop} {p mp ap:Nat} {ov:Value} {m':Mc} {w w1 w2:World} (h:Mach w2 p mp ap ov m') (hk:Kept (fun k=>k≠p) w1 w2) (h1:Kept S w w1) (hF:Free S p ap ov) (hS:∀ k,S k→k<w.heap.size):Stored S p mp ap m' w w2:=
 ⟨ov,h,h1.trans (kept_ne hk hF.1),hF,fun k hs=>Nat.lt_of_lt_of_le (hS k hs) (Nat.le_trans h1.size hk.size)⟩
theorem inByte_eq (m:Mc) (h:m.read<m.inp.size):((m.inp[m.read]).toNat:Int) % 4294967296=m.inByte:=by
 have h1:=(m.inp[m.read]).toNat_lt
 have h2:m.inp.data.getD m.read 0=m.inp[m.read]:=by
  rw[Array.getD_eq_getD_getElem?,Array.getElem?_eq_getElem h];rfl
 rw[Mc.inByte,if_pos h,h2];omega
theorem cpu_moves_load (S:Nat→Prop) (v:Bool) (A B:Nat) (c op im:Int) (p mp ap:Nat) (ov:Value) (m:Mc) (w:World) (h:Mach w p mp ap ov m) (hA:A<16) (hB:B<16) (i0:-524288≤im) (i1:im<524288) (hF:Free S p ap ov) (hS:∀ k,S k→k<w.heap.size) :
  Calls Tryz.prog 98 #[.pointer (some ⟨p,0,none⟩),Ins.val ⟨2,false,v,A,B,c,op,im⟩] w fun e w'=>e=.returned (.tuple #[])∧Stored S p mp ap (m.loads A ((m.r.getD B 0+im) % 4294967296) v) w w':=by
 simp only[Ins.val,Ins.cells]
 have L0:=Blk.new w 128 #[.int .i64 2,.bool false,.bool v,.int .i64 A,.int .i64 B,.int .i64 c,.int .i64 op,.int .i64 im]
 have h1:=zh (h.alloc (.cells #[.int .i64 2,.bool false,.bool v,.int .i64 A,.int .i64 B,.int .i64 c,.int .i64 op,.int .i64 im] 128))
 have rB:=h1.out.reg B hB
 have bB:=h.ok.reg (B:Int)
 have c22:=h1.out.mem_
 have c23:=h1.out.inp_
 have c24:=h1.out.read_
 have c26:=h1.out.en_
 have f24:=h1.out.froz 24
 have f26:=h1.out.froz 26
 have K1:Kept S w (w.alloc (.cells #[.int .i64 2,.bool false,.bool v,.int .i64 A,.int .i64 B,.int .i64 c,.int .i64 op,.int .i64 im] 128)):=(Kept.refl S w).alloc hS _
 have S1:∀ k,S k→k<(w.alloc (.cells #[.int .i64 2,.bool false,.bool v,.int .i64 A,.int .i64 B,.int .i64 c,.int .i64 op,.int .i64 im] 128)).heap.size:=fun k hk=>by have:=hS k hk;simp;omega
 have l0:=L0.cell 0
 have l1:=L0.cell 1
 have l2:=L0.cell 2
 have l3:=L0.cell 3
 have l4:=L0.cell 4
 have l7:=L0.cell 7
 simp only[gAr,gC0,gCs] at l0 l1 l2 l3 l4 l7
 simp only[Mc.reg,Int.toNat_natCast] at bB
 have ok:=h.ok
 have hrd:=ok.rd
 have hil:=ok.il
 have hml:=ok.ml
 have hmb:=ok.mb
 have K1:=zh K1
 have S1:=zh S1
 have hF:=zh hF
 have ok:=zh ok
 have hB':(B:Int)<16:=by omega
 have hS:=zh hS
 clear h
 generalize m.r.getD B 0=xb at *
 have hsum:=u32_sum xb im
 have hat:Mc.W32 ((xb+im) % 4294967296):=by unfold Mc.W32;omega
 generalize (xb+im) % 4294967296=AT at *
 have hat':=zh hat
 obtain⟨ha0,ha1⟩:=hat
 by_cases e1:AT=4294967240
 ·subst e1
  by_cases e2:m.read<m.inp.size
  ·have hr:m.loads A 4294967240 v=({ m with read:=m.read+1 }:Mc).sets A m.inByte:=by rw[Mc.loads,if_pos rfl,if_pos e2]
   rw[hr]
   have e2':(m.read:Int)<(m.inp.size:Int):=by omega
   clear hr
   go_enter Tryz.func98,Tryz.ntmps98
   go_wp2_with fail
   (refine region_drew 11 (by kernel_rfl) (by kernel_rfl) ?_;simp only[List.take_succ_cons,List.take_zero,List.drop_succ_cons,List.drop_zero];(repeat still_step))
   refine wpStill_nil ?_
   go_wp2_with fail
   (refine region_drew 9 (by kernel_rfl) (by kernel_rfl) ?_;simp only[List.take_succ_cons,List.take_zero,List.drop_succ_cons,List.drop_zero];(repeat still_step))
   refine wpStill_nil ?_
   go_wp2_with fail
   (refine region_drew 10 (by kernel_rfl) (by kernel_rfl) ?_;simp only[List.take_succ_cons,List.take_zero,List.drop_succ_cons,List.drop_zero];(repeat still_step))
   refine wpStill_nil ?_
   go_wp2_with fail
   have hm:Mach ((w.alloc (.cells #[.int .i64 2,.bool false,.bool v,.int .i64 A,.int .i64 B,.int .i64 c,.int .i64 op,.int .i64 im] 128)).setCell ⟨p,24,none⟩ (.int .i64 ((m.read:Int)+1))) p mp ap ov { m with read:=m.read+1 }:=h1.out.set_read (m.read+1) (by omega)
   refine(cpu_sets A _ p mp ap ov { m with read:=m.read+1 } _ hm.drew.drew.drew hA (by unfold Mc.W32;omega)).mono ?_
   rintro e w2 ⟨rfl,hm2,hk2⟩
   rw[inByte_eq m e2] at hm2
   go_wp2_with fail
   go_end0
   exact⟨rfl,Stored.sets hm2 hk2 (K1.out.then_ hF.out.1 24 _).drew.drew.drew hF.out hS.out⟩
  ·have hr:m.loads A 4294967240 v=m.sets A 0:=by rw[Mc.loads,if_pos rfl,if_neg e2]
   rw[hr]
   have e2':¬ (m.read:Int)<(m.inp.size:Int):=by omega
   clear hr
   go_enter Tryz.func98,Tryz.ntmps98
   go_wp2_with fail
   (refine region_drew 11 (by kernel_rfl) (by kernel_rfl) ?_;simp only[List.take_succ_cons,List.take_zero,List.drop_succ_cons,List.drop_zero];(repeat still_step))
   refine wpStill_nil ?_
   go_wp2_with fail
   (refine region_drew 9 (by kernel_rfl) (by kernel_rfl) ?_;simp only[List.take_succ_cons,List.take_zero,List.drop_succ_cons,List.drop_zero];(repeat still_step))
   refine wpStill_nil ?_
   go_wp2_with fail
   refine(cpu_sets A _ p mp ap ov m _ h1.out.drew.drew hA (by unfold Mc.W32;omega)).mono ?_
   rintro e w2 ⟨rfl,hm2,hk2⟩
   go_wp2_with fail
   go_end0
   exact⟨rfl,Stored.sets hm2 hk2 K1.out.drew.drew hF.out hS.out⟩
 have e1':(AT==4294967240)=false:=by rw[beq_eq_false_iff_ne];exact e1
 by_cases e2:AT=4294967244
 ·subst e2
  by_cases e3:m.read<m.inp.size
  ·have hr:m.loads A 4294967244 v=m.sets A 1:=by rw[Mc.loads,if_neg e1,if_pos rfl,if_pos e3]
   rw[hr]
   have e3':(m.read:Int)<(m.inp.size:Int):=by omega
   clear hr
   go_enter Tryz.func98,Tryz.ntmps98
   go_wp2_with fail
   (refine region_drew 11 (by kernel_rfl) (by kernel_rfl) ?_;simp only[List.take_succ_cons,List.take_zero,List.drop_succ_cons,List.drop_zero];(repeat still_step))
   refine wpStill_nil ?_
   go_wp2_with fail
   (refine region_drew 9 (by kernel_rfl) (by kernel_rfl) ?_;simp only[List.take_succ_cons,List.take_zero,List.drop_succ_cons,List.drop_zero];(repeat still_step))
   refine wpStill_nil ?_
   go_wp2_with fail
   refine(cpu_sets A _ p mp ap ov m _ h1.out.drew.drew hA (by unfold Mc.W32;omega)).mono ?_
   rintro e w2 ⟨rfl,hm2,hk2⟩
   go_wp2_with fail
   go_end0
   exact⟨rfl,Stored.sets hm2 hk2 K1.out.drew.drew hF.out hS.out⟩
  ·have hr:m.loads A 4294967244 v=m.sets A 0:=by rw[Mc.loads,if_neg e1,if_pos rfl,if_neg e3]
   rw[hr]
   have e3':¬ (m.read:Int)<(m.inp.size:Int):=by omega
   clear hr
   go_enter Tryz.func98,Tryz.ntmps98
   go_wp2_with fail
   (refine region_drew 11 (by kernel_rfl) (by kernel_rfl) ?_;simp only[List.take_succ_cons,List.take_zero,List.drop_succ_cons,List.drop_zero];(repeat still_step))
   refine wpStill_nil ?_
   go_wp2_with fail
   (refine region_drew 9 (by kernel_rfl) (by kernel_rfl) ?_;simp only[List.take_succ_cons,List.take_zero,List.drop_succ_cons,List.drop_zero];(repeat still_step))
   refine wpStill_nil ?_
   go_wp2_with fail
   refine(cpu_sets A _ p mp ap ov m _ h1.out.drew.drew hA (by unfold Mc.W32;omega)).mono ?_
   rintro e w2 ⟨rfl,hm2,hk2⟩
   go_wp2_with fail
   go_end0
   exact⟨rfl,Stored.sets hm2 hk2 K1.out.drew.drew hF.out hS.out⟩
 have e2':(AT==4294967244)=false:=by rw[beq_eq_false_iff_ne];exact e2
 obtain⟨k,hk⟩:∃ k:Nat,AT / 4=(k:Int):=⟨(AT / 4).toNat,by omega⟩
 have hth:m.there AT=decide (k<m.mem.length):=by
  rw[Mc.there,hk,Mc.size]
  exact decide_eq_decide.2 (by omega)
 have hkt:(AT / 4).toNat=k:=by rw[hk];exact Int.toNat_natCast k
 cases v
 ·cases hok:(AT % 4==0 && decide (k<m.mem.length))
  ·have hr:m.loads A AT false={ m with en:=5 }:=by
    rw[Mc.loads,if_neg e1,if_neg e2,Mc.loadOk,hth,Bool.false_or,hok];rfl
   rw[hr]
   have LD:=fun W hW=>zh (mem_load mp ap k AT m.mem W hW hk ha0 ha1 hml false hok)
   clear hr hok hth hkt hk e1 e2
   go_enter Tryz.func98,Tryz.ntmps98
   go_wp2_with fail
   (refine region_drew 11 (by kernel_rfl) (by kernel_rfl) ?_;simp only[List.take_succ_cons,List.take_zero,List.drop_succ_cons,List.drop_zero];(repeat still_step))
   refine wpStill_nil ?_
   go_wp2_with fail
   refine(LD _ h1.out.drew.mem).out.mono ?_
   rintro e w2 ⟨rfl,rfl⟩
   go_wp2_with fail
   refine bodyPost_ret (results_none rfl _ _ _) rfl ?_
   exact⟨rfl,Stored.en h1.out.drew K1.out.drew hF.out S1.out 5⟩
  ·have hr:m.loads A AT false=m.sets A (m.mem.getD k 0):=by
    rw[Mc.loads,if_neg e1,if_neg e2,Mc.loadOk,hth,Bool.false_or,hok,if_pos rfl,Mc.loadV,Mc.word,hkt];rfl
   rw[hr]
   have bv:=ok.out.word k
   have LD:=fun W hW=>zh (mem_load mp ap k AT m.mem W hW hk ha0 ha1 hml true hok)
   clear hr hok hth hkt hk e1 e2
   go_enter Tryz.func98,Tryz.ntmps98
   go_wp2_with fail
   (refine region_drew 11 (by kernel_rfl) (by kernel_rfl) ?_;simp only[List.take_succ_cons,List.take_zero,List.drop_succ_cons,List.drop_zero];(repeat still_step))
   refine wpStill_nil ?_
   go_wp2_with fail
   refine(LD _ h1.out.drew.mem).out.mono ?_
   rintro e w2 ⟨rfl,rfl⟩
   go_wp2_with fail
   refine(cpu_sets A _ p mp ap ov m _ h1.out.drew hA bv).mono ?_
   rintro e w2 ⟨rfl,hm2,hk2⟩
   go_wp2_with fail
   go_end0
   exact⟨rfl,Stored.sets hm2 hk2 K1.out.drew hF.out hS.out⟩
 ·cases hok:decide (k<m.mem.length)
  ·have hr:m.loads A AT true={ m with en:=5 }:=by
    rw[Mc.loads,if_neg e1,if_neg e2,Mc.loadOk,hth,Bool.true_or,Bool.true_and,hok];rfl
   rw[hr]
   have LD:=fun W hW=>zh (mem_byte mp ap k AT m.mem W hW hk ha0 ha1 hml hmb false hok)
   clear hr hok hth hkt hk e1 e2
   go_enter Tryz.func98,Tryz.ntmps98
   go_wp2_with fail
   (refine region_drew 11 (by kernel_rfl) (by kernel_rfl) ?_;simp only[List.take_succ_cons,List.take_zero,List.drop_succ_cons,List.drop_zero];(repeat still_step))
   refine wpStill_nil ?_
   go_wp2_with fail
   refine(LD _ h1.out.drew.mem).out.mono ?_
   rintro e w2 ⟨rfl,rfl⟩
   go_wp2_with fail
   refine bodyPost_ret (results_none rfl _ _ _) rfl ?_
   exact⟨rfl,Stored.en h1.out.drew K1.out.drew hF.out S1.out 5⟩
  ·have hr:m.loads A AT true=m.sets A (Mc.part (m.mem.getD k 0) AT):=by
    rw[Mc.loads,if_neg e1,if_neg e2,Mc.loadOk,hth,Bool.true_or,Bool.true_and,hok,if_pos rfl,Mc.loadV,Mc.word,hkt];rfl
   rw[hr]
   have bv:Mc.W32 (Mc.part (m.mem.getD k 0) AT):=by have:=Mc.part_bd (m.mem.getD k 0) AT;unfold Mc.W32;omega
   have LD:=fun W hW=>zh (mem_byte mp ap k AT m.mem W hW hk ha0 ha1 hml hmb true hok)
   clear hr hok hth hkt hk e1 e2
   generalize Mc.part (m.mem.getD k 0) AT=pv at *
   go_enter Tryz.func98,Tryz.ntmps98
   go_wp2_with fail
   (refine region_drew 11 (by kernel_rfl) (by kernel_rfl) ?_;simp only[List.take_succ_cons,List.take_zero,List.drop_succ_cons,List.drop_zero];(repeat still_step))
   refine wpStill_nil ?_
   go_wp2_with fail
   refine(LD _ h1.out.drew.mem).out.mono ?_
   rintro e w2 ⟨rfl,rfl⟩
   go_wp2_with fail
   refine(cpu_sets A _ p mp ap ov m _ h1.out.drew hA bv).mono ?_
   rintro e w2 ⟨rfl,hm2,hk2⟩
   go_wp2_with fail
   go_end0
   exact⟨rfl,Stored.sets hm2 hk2 K1.out.drew hF.out hS.out⟩
end Go.Proofs.YtceflhffilldeaaGreat
namespace Go.Proofs.YtceflhffilldeaaGreat
open Go.RowKit Bw
theorem and_pc (n:Int):bits .and .i64 n 1073741823=n % 1073741824:=by
 have h127:(BitVec.ofInt 64 1073741823).toNat=2 ^ 30-1:=by decide
 have key:(BitVec.ofInt 64 n &&& BitVec.ofInt 64 1073741823).toNat=(n % ((2 ^ 64:Nat):Int)).toNat % 2 ^ 30:=by
  rw[BitVec.toNat_and,BitVec.toNat_ofInt,h127,Nat.and_two_pow_sub_one_eq_mod]
 show IntKind.i64.wrap ((BitVec.ofInt 64 n &&& BitVec.ofInt 64 1073741823).toNat:Nat)=n % 1073741824
 rw[key,IntKind.wrap_i64]
 omega
theorem cpu_jumps (S:Nat→Prop) (u v:Bool) (A:Int) (C:Nat) (b op im:Int) (p mp ap:Nat) (ov:Value) (m:Mc) (w:World) (h:Mach w p mp ap ov m) (hA:0≤A∧A<16) (hC:C<16) (i0:-8388608≤im) (i1:im<8388608) (hF:Free S p ap ov) (hS:∀ k,S k→k<w.heap.size) :
  Calls Tryz.prog 99 #[.pointer (some ⟨p,0,none⟩),Ins.val ⟨3,u,v,A,b,C,op,im⟩] w fun e w'=>e=.returned (.tuple #[])∧Stored S p mp ap (m.jumps ⟨3,u,v,A,b,C,op,im⟩) w w':=by
 simp only[Ins.val,Ins.cells]
 have L0:=Blk.new w 128 #[.int .i64 3,.bool u,.bool v,.int .i64 A,.int .i64 b,.int .i64 C,.int .i64 op,.int .i64 im]
 have h1:=zh (h.alloc (.cells #[.int .i64 3,.bool u,.bool v,.int .i64 A,.int .i64 b,.int .i64 C,.int .i64 op,.int .i64 im] 128))
 have K1:Kept S w (w.alloc (.cells #[.int .i64 3,.bool u,.bool v,.int .i64 A,.int .i64 b,.int .i64 C,.int .i64 op,.int .i64 im] 128)):=(Kept.refl S w).alloc hS _
 have S1:∀ k,S k→k<(w.alloc (.cells #[.int .i64 3,.bool u,.bool v,.int .i64 A,.int .i64 b,.int .i64 C,.int .i64 op,.int .i64 im] 128)).heap.size:=fun k hk=>by have:=hS k hk;simp;omega
 have lz:w.heap.size<(w.alloc (.cells #[.int .i64 3,.bool u,.bool v,.int .i64 A,.int .i64 b,.int .i64 C,.int .i64 op,.int .i64 im] 128)).heap.size:=by simp
 have c17:=h1.out.fn
 have c18:=h1.out.fz
 have c19:=h1.out.fc
 have c20:=h1.out.fv
 have l1:=L0.cell 1
 have l2:=L0.cell 2
 have l3:=L0.cell 3
 have l5:=L0.cell 5
 have l7:=L0.cell 7
 simp only[gAr,gC0,gCs] at l1 l2 l3 l5 l7
 have K1:=zh K1
 have S1:=zh S1
 have hF:=zh hF
 have hS:=zh hS
 have lz:=zh lz
 have HO:=fun W=>zh (alu_holds A m.f W (by omega) (by omega))
 simp only[Fl.val,Fl.cells] at HO
 have hok:=h.ok
 have hpc:=hok.pc
 have bC:=hok.reg (C:Int)
 simp only[Mc.reg,Int.toNat_natCast] at bC
 have hjm:m.jumps ⟨3,u,v,A,b,C,op,im⟩=if Alu.holds A m.f=true then { m with pc:=if u=true then (m.pc+im) % 1073741824 else m.r.getD C 0 / 4,r:=if v=true then m.r.set 15 (m.pc*4 % 4294967296) else m.r } else m:=rfl
 generalize m.jumps ⟨3,u,v,A,b,C,op,im⟩=R at *
 have hC':(C:Int)<16:=by omega
 have bC0:=bC.1
 have bC1:=bC.2
 have P1:0≤(m.pc+im) % 1073741824∧(m.pc+im) % 1073741824≤1073741824:=by omega
 have P2:0≤m.r.getD C 0 / 4∧m.r.getD C 0 / 4≤1073741824:=by omega
 have P3:Mc.W32 (m.pc*4 % 4294967296):=by unfold Mc.W32;omega
 have EP:=and_pc (m.pc+im)
 clear h hok L0 bC
 obtain⟨xc,eC⟩:∃ xc,m.r.getD C 0=xc:=⟨_,rfl⟩
 rw[eC] at hjm bC0 bC1 P2
 have eC':=zh eC
 clear eC
 have eC:=eC'
 clear eC'
 have hjm:=zh hjm
 have P1:=zh P1
 have P2:=zh P2
 have P3:=zh P3
 cases hh:Alu.holds A m.f
 ·have hjm':R=m:=by have h1:=hjm.out;rw[hh,if_neg (by decide)] at h1;exact h1
  have hjm':=zh hjm'
  rw[hh] at HO
  clear hjm hh
  go_enter Tryz.func99,Tryz.ntmps99
  go_wp2_with fail
  (refine region_drew 6 (by kernel_rfl) (by kernel_rfl) ?_;simp only[List.take_succ_cons,List.take_zero,List.drop_succ_cons,List.drop_zero];(repeat still_step))
  refine wpStill_nil ?_
  go_wp2_with (go_at_call 130;refine(HO _).out.mono ?_;rintro e w3 ⟨rfl,hb3⟩)
  refine bodyPost_ret (results_none rfl _ _ _) rfl ?_
  rw[hjm'.out]
  exact⟨rfl,ov,h1.out.drew.below hb3,K1.out.drew.below hb3 S1.out,hF.out,fun k hk=>Nat.lt_of_lt_of_le (S1.out k hk) hb3.size⟩
 ·have hjm':=hjm.out
  rw[hh,if_pos rfl] at hjm'
  rw[hh] at HO
  clear hjm hh
  cases u<;>cases v
  ·simp only[Bool.false_eq_true,if_true,if_false] at hjm'
   subst hjm'
   go_enter Tryz.func99,Tryz.ntmps99
   go_wp2_with fail
   (refine region_drew 6 (by kernel_rfl) (by kernel_rfl) ?_;simp only[List.take_succ_cons,List.take_zero,List.drop_succ_cons,List.drop_zero];(repeat still_step))
   refine wpStill_nil ?_
   go_wp2_with (go_at_call 130;refine(HO _).out.mono ?_;rintro e w3 ⟨rfl,hb3⟩;have l1':=(hb3.cell (p:=⟨w.heap.size,1,none⟩) lz.out).trans l1;have l2':=(hb3.cell (p:=⟨w.heap.size,2,none⟩) lz.out).trans l2;have l5':=(hb3.cell (p:=⟨w.heap.size,5,none⟩) lz.out).trans l5;have l7':=(hb3.cell (p:=⟨w.heap.size,7,none⟩) lz.out).trans l7;have h3:=zh (h1.out.drew.below hb3);have K3:=zh (K1.out.drew.below hb3 S1.out);have S3:=zh (show ∀ k,S k→k<w3.heap.size from fun k hk=>Nat.lt_of_lt_of_le (S1.out k hk) hb3.size);clear h1 K1 S1 hb3 l1 l2 l3 l5 l7 c17 c18 c19 c20;have c21:=h3.out.pc_;have f21:=h3.out.froz 21;have c15:=h3.out.reg 15 (by omega);have f15:=h3.out.froz 15;have cC:=h3.out.reg C hC;rw[eC.out] at cC)
   (refine region_drew 12 (by kernel_rfl) (by kernel_rfl) ?_;simp only[List.take_succ_cons,List.take_zero,List.drop_succ_cons,List.drop_zero];(repeat still_step))
   refine wpStill_nil ?_
   go_wp2_with fail
   go_end0
   exact⟨rfl,ov,(h3.out.set_pc _ P2.out).drew,(K3.out.then_ hF.out.1 21 _).drew,hF.out,fun k hk=>by simpa [World.setCell] using S3.out k hk⟩
  ·simp only[Bool.false_eq_true,if_true,if_false] at hjm'
   subst hjm'
   go_enter Tryz.func99,Tryz.ntmps99
   go_wp2_with fail
   (refine region_drew 6 (by kernel_rfl) (by kernel_rfl) ?_;simp only[List.take_succ_cons,List.take_zero,List.drop_succ_cons,List.drop_zero];(repeat still_step))
   refine wpStill_nil ?_
   go_wp2_with (go_at_call 130;refine(HO _).out.mono ?_;rintro e w3 ⟨rfl,hb3⟩;have l1':=(hb3.cell (p:=⟨w.heap.size,1,none⟩) lz.out).trans l1;have l2':=(hb3.cell (p:=⟨w.heap.size,2,none⟩) lz.out).trans l2;have l5':=(hb3.cell (p:=⟨w.heap.size,5,none⟩) lz.out).trans l5;have l7':=(hb3.cell (p:=⟨w.heap.size,7,none⟩) lz.out).trans l7;have h3:=zh (h1.out.drew.below hb3);have K3:=zh (K1.out.drew.below hb3 S1.out);have S3:=zh (show ∀ k,S k→k<w3.heap.size from fun k hk=>Nat.lt_of_lt_of_le (S1.out k hk) hb3.size);clear h1 K1 S1 hb3 l1 l2 l3 l5 l7 c17 c18 c19 c20;have c21:=h3.out.pc_;have f21:=h3.out.froz 21;have c15:=h3.out.reg 15 (by omega);have f15:=h3.out.froz 15;have cC:=h3.out.reg C hC;rw[eC.out] at cC)
   (refine region_drew 12 (by kernel_rfl) (by kernel_rfl) ?_;simp only[List.take_succ_cons,List.take_zero,List.drop_succ_cons,List.drop_zero];(repeat still_step))
   refine wpStill_nil ?_
   go_wp2_with fail
   go_end0
   exact⟨rfl,ov,((h3.out.set_pc _ P2.out).set_r 15 _ (by omega) P3.out).drew,((K3.out.then_ hF.out.1 21 _).then_ hF.out.1 15 _).drew,hF.out,fun k hk=>by simpa [World.setCell] using S3.out k hk⟩
  ·simp only[Bool.false_eq_true,if_true,if_false] at hjm'
   subst hjm'
   go_enter Tryz.func99,Tryz.ntmps99
   go_wp2_with fail
   (refine region_drew 6 (by kernel_rfl) (by kernel_rfl) ?_;simp only[List.take_succ_cons,List.take_zero,List.drop_succ_cons,List.drop_zero];(repeat still_step))
   refine wpStill_nil ?_
   go_wp2_with (go_at_call 130;refine(HO _).out.mono ?_;rintro e w3 ⟨rfl,hb3⟩;have l1':=(hb3.cell (p:=⟨w.heap.size,1,none⟩) lz.out).trans l1;have l2':=(hb3.cell (p:=⟨w.heap.size,2,none⟩) lz.out).trans l2;have l5':=(hb3.cell (p:=⟨w.heap.size,5,none⟩) lz.out).trans l5;have l7':=(hb3.cell (p:=⟨w.heap.size,7,none⟩) lz.out).trans l7;have h3:=zh (h1.out.drew.below hb3);have K3:=zh (K1.out.drew.below hb3 S1.out);have S3:=zh (show ∀ k,S k→k<w3.heap.size from fun k hk=>Nat.lt_of_lt_of_le (S1.out k hk) hb3.size);clear h1 K1 S1 hb3 l1 l2 l3 l5 l7 c17 c18 c19 c20;have c21:=h3.out.pc_;have f21:=h3.out.froz 21;have c15:=h3.out.reg 15 (by omega);have f15:=h3.out.froz 15;have cC:=h3.out.reg C hC;rw[eC.out] at cC)
   go_end0
   exact⟨rfl,ov,h3.out.set_pc _ P1.out,K3.out.then_ hF.out.1 21 _,hF.out,fun k hk=>by simpa [World.setCell] using S3.out k hk⟩
  ·simp only[Bool.false_eq_true,if_true,if_false] at hjm'
   subst hjm'
   go_enter Tryz.func99,Tryz.ntmps99
   go_wp2_with fail
   (refine region_drew 6 (by kernel_rfl) (by kernel_rfl) ?_;simp only[List.take_succ_cons,List.take_zero,List.drop_succ_cons,List.drop_zero];(repeat still_step))
   refine wpStill_nil ?_
   go_wp2_with (go_at_call 130;refine(HO _).out.mono ?_;rintro e w3 ⟨rfl,hb3⟩;have l1':=(hb3.cell (p:=⟨w.heap.size,1,none⟩) lz.out).trans l1;have l2':=(hb3.cell (p:=⟨w.heap.size,2,none⟩) lz.out).trans l2;have l5':=(hb3.cell (p:=⟨w.heap.size,5,none⟩) lz.out).trans l5;have l7':=(hb3.cell (p:=⟨w.heap.size,7,none⟩) lz.out).trans l7;have h3:=zh (h1.out.drew.below hb3);have K3:=zh (K1.out.drew.below hb3 S1.out);have S3:=zh (show ∀ k,S k→k<w3.heap.size from fun k hk=>Nat.lt_of_lt_of_le (S1.out k hk) hb3.size);clear h1 K1 S1 hb3 l1 l2 l3 l5 l7 c17 c18 c19 c20;have c21:=h3.out.pc_;have f21:=h3.out.froz 21;have c15:=h3.out.reg 15 (by omega);have f15:=h3.out.froz 15;have cC:=h3.out.reg C hC;rw[eC.out] at cC)
   go_end0
   exact⟨rfl,ov,(h3.out.set_pc _ P1.out).set_r 15 _ (by omega) P3.out,(K3.out.then_ hF.out.1 21 _).then_ hF.out.1 15 _,hF.out,fun k hk=>by simpa [World.setCell] using S3.out k hk⟩
end Go.Proofs.YtceflhffilldeaaGreat
namespace Go.Proofs.YtceflhffilldeaaGreat
open Go.RowKit Bw
theorem cpu_moves (S:Nat→Prop) (x:Ins) (hx:x.good=true) (hf:x.form=2) (p mp ap:Nat) (ov:Value) (m:Mc) (w:World) (h:Mach w p mp ap ov m) (hF:Free S p ap ov) (hS:∀ k,S k→k<w.heap.size) :
  Calls Tryz.prog 98 #[.pointer (some ⟨p,0,none⟩),x.val] w fun e w'=>e=.returned (.tuple #[])∧Stored S p mp ap (m.moves x) w w':=by
 obtain⟨form,u,v,a,b,c,op,im⟩:=x
 have hr:=Ins.good_range _ hx
 simp only at hf hr
 subst hf
 have hi:=Ins.good_im2 _ _ _ _ _ _ _ hx
 obtain⟨A,rfl⟩:=Int.eq_ofNat_of_zero_le hr.2.2.1
 obtain⟨B,rfl⟩:=Int.eq_ofNat_of_zero_le hr.2.2.2.2.1
 cases u
 ·have h1:=cpu_moves_load S v A B c op im p mp ap ov m w h (by omega) (by omega) hi.1 hi.2 hF hS
  have e1:m.moves ⟨2,false,v,(A:Int),(B:Int),c,op,im⟩=m.loads A ((m.r.getD B 0+im) % 4294967296) v:=rfl
  rw[e1];exact h1
 ·have h1:=cpu_moves_store S v A B c op im p mp ap ov m w h (by omega) (by omega) hi.1 hi.2 hF hS
  have e1:m.moves ⟨2,true,v,(A:Int),(B:Int),c,op,im⟩=m.stores ((m.r.getD B 0+im) % 4294967296) (m.r.getD A 0) v:=rfl
  rw[e1];exact h1
theorem cpu_jumpsX (S:Nat→Prop) (x:Ins) (hx:x.good=true) (hf:x.form=3) (p mp ap:Nat) (ov:Value) (m:Mc) (w:World) (h:Mach w p mp ap ov m) (hF:Free S p ap ov) (hS:∀ k,S k→k<w.heap.size) :
  Calls Tryz.prog 99 #[.pointer (some ⟨p,0,none⟩),x.val] w fun e w'=>e=.returned (.tuple #[])∧Stored S p mp ap (m.jumps x) w w':=by
 obtain⟨form,u,v,a,b,c,op,im⟩:=x
 have hr:=Ins.good_range _ hx
 simp only at hf hr
 subst hf
 have hi:=Ins.good_im3 _ _ _ _ _ _ _ hx
 obtain⟨C,rfl⟩:=Int.eq_ofNat_of_zero_le hr.2.2.2.2.2.2.1
 exact cpu_jumps S u v a C b op im p mp ap ov m w h ⟨hr.2.2.1,hr.2.2.2.1⟩ (by omega) hi.1 hi.2 hF hS
def Reckons:Prop:=∀ (S:Nat→Prop) (x:Ins) (hx:x.good=true) (hf:x.form=0∨x.form=1) (p mp ap:Nat) (ov:Value) (m:Mc) (w:World) (h:Mach w p mp ap ov m) (hF:Free S p ap ov) (hS:∀ k,S k→k<w.heap.size),
  Calls Tryz.prog 100 #[.pointer (some ⟨p,0,none⟩),x.val] w fun e w'=>e=.returned (.tuple #[])∧Stored S p mp ap (m.reckons x) w w'
end Go.Proofs.YtceflhffilldeaaGreat
namespace Go.Proofs.YtceflhffilldeaaGreat
open Go.RowKit Bw
theorem xcells (w:World) (form im:Int) (u v:Bool) (a b c op:Int) (t:TypeId):let W:=w.alloc (.cells #[.int .i64 form,.bool u,.bool v,.int .i64 a,.int .i64 b,.int .i64 c,.int .i64 op,.int .i64 im] t)
  W.cell? ⟨w.heap.size,0,none⟩=some (.int .i64 form)∧W.cell? ⟨w.heap.size,1,none⟩=some (.bool u)∧W.cell? ⟨w.heap.size,2,none⟩=some (.bool v)∧W.cell? ⟨w.heap.size,3,none⟩=some (.int .i64 a) ∧
  W.cell? ⟨w.heap.size,4,none⟩=some (.int .i64 b)∧W.cell? ⟨w.heap.size,5,none⟩=some (.int .i64 c)∧W.cell? ⟨w.heap.size,6,none⟩=some (.int .i64 op)∧W.cell? ⟨w.heap.size,7,none⟩=some (.int .i64 im):=by
 have h:Blk (w.alloc (.cells #[.int .i64 form,.bool u,.bool v,.int .i64 a,.int .i64 b,.int .i64 c,.int .i64 op,.int .i64 im] t)) w.heap.size t _:=Blk.new w t _
 exact⟨h.cell 0,h.cell 1,h.cell 2,h.cell 3,h.cell 4,h.cell 5,h.cell 6,h.cell 7⟩
structure Reck (N g p A B:Nat) (op b0 h0:Int) (u f1 f2 f3 f4:Bool) (W0 w:World):Prop where
 b:Below N W0 w
 n:N≤w.heap.size
 g3:w.cell? ⟨g,3,none⟩=some (.int .i64 A)
 g6:w.cell? ⟨g,6,none⟩=some (.int .i64 op)
 g1:w.cell? ⟨g,1,none⟩=some (.bool u)
 g4:w.cell? ⟨g,4,none⟩=some (.int .i64 B)
 pB:w.cell? ⟨p,B,none⟩=some (.int .u32 b0)
 p16:w.cell? ⟨p,16,none⟩=some (.int .u32 h0)
 p17:w.cell? ⟨p,17,none⟩=some (.bool f1)
 p18:w.cell? ⟨p,18,none⟩=some (.bool f2)
 p19:w.cell? ⟨p,19,none⟩=some (.bool f3)
 p20:w.cell? ⟨p,20,none⟩=some (.bool f4)
theorem Reck.on {N g p A B:Nat} {op b0 h0:Int} {u f1 f2 f3 f4:Bool} {W0 w1 w2:World} (h:Reck N g p A B op b0 h0 u f1 f2 f3 f4 W0 w1) (hg:g<N) (hp:p<N) (hb:Below N w1 w2):Reck N g p A B op b0 h0 u f1 f2 f3 f4 W0 w2:=
 ⟨h.b.trans hb,Nat.le_trans h.n hb.size,(hb.cell (p:=⟨g,3,none⟩) hg).trans h.g3,(hb.cell (p:=⟨g,6,none⟩) hg).trans h.g6,(hb.cell (p:=⟨g,1,none⟩) hg).trans h.g1,(hb.cell (p:=⟨g,4,none⟩) hg).trans h.g4,(hb.cell (p:=⟨p,B,none⟩) hp).trans h.pB,(hb.cell (p:=⟨p,16,none⟩) hp).trans h.p16,(hb.cell (p:=⟨p,17,none⟩) hp).trans h.p17,(hb.cell (p:=⟨p,18,none⟩) hp).trans h.p18,(hb.cell (p:=⟨p,19,none⟩) hp).trans h.p19,(hb.cell (p:=⟨p,20,none⟩) hp).trans h.p20⟩
theorem Reck.alloc {N g p A B:Nat} {op b0 h0:Int} {u f1 f2 f3 f4:Bool} {W0 w1:World} (h:Reck N g p A B op b0 h0 u f1 f2 f3 f4 W0 w1) (hg:g<N) (hp:p<N) (o:Obj):Reck N g p A B op b0 h0 u f1 f2 f3 f4 W0 (w1.alloc o):=h.on hg hp ((Below.refl _ _).alloc h.n o)
theorem Reck.re {N g p A B:Nat} {op b0 h0:Int} {u f1 f2 f3 f4:Bool} {W0 w1:World} {o1:Obj} (h:Reck N g p A B op b0 h0 u f1 f2 f3 f4 W0 (w1.alloc o1)) (hg:g<N) (hp:p<N) (hn:N≤w1.heap.size) (o2:Obj):Reck N g p A B op b0 h0 u f1 f2 f3 f4 W0 (w1.alloc o2):=by
 have b1:=(Below.refl N w1).alloc hn o1
 have b2:=(Below.refl N w1).alloc hn o2
 exact h.on hg hp ⟨b2.os.trans b1.os.symm,b2.tape.trans b1.tape.symm,b2.output.trans b1.output.symm,by simp,fun k hk=>(b2.block k hk).trans (b1.block k hk).symm⟩
theorem below4 {N g:Nat} (w:World) (hg:N≤g) (a b c d:Value):Below N w ((((w.setCell ⟨g,0,none⟩ a).setCell ⟨g,1,none⟩ b).setCell ⟨g,2,none⟩ c).setCell ⟨g,3,none⟩ d):=
 ((((Below.refl N w).setCell (p:=⟨g,0,none⟩) hg a).setCell (p:=⟨g,1,none⟩) hg b).setCell (p:=⟨g,2,none⟩) hg c).setCell (p:=⟨g,3,none⟩) hg d
theorem blk4 {w:World} {g:Nat} {t:TypeId} {x0 x1 x2 x3:Value} (h:Blk w g t #[x0,x1,x2,x3]) (a b c d:Value):Blk ((((w.setCell ⟨g,0,none⟩ a).setCell ⟨g,1,none⟩ b).setCell ⟨g,2,none⟩ c).setCell ⟨g,3,none⟩ d) g t #[a,b,c,d]:=
 (((h.set_ 0 a).set_ 1 b).set_ 2 c).set_ 3 d
structure Rtl (gx g7 A:Nat) (f1 f2 f3 f4:Bool) (w:World):Prop where
 g3:w.cell? ⟨gx,3,none⟩=some (.int .i64 A)
 c0:w.cell? ⟨g7,0,none⟩=some (.bool f1)
 c1:w.cell? ⟨g7,1,none⟩=some (.bool f2)
 c2:w.cell? ⟨g7,2,none⟩=some (.bool f3)
 c3:w.cell? ⟨g7,3,none⟩=some (.bool f4)
theorem Rtl.set_ {gx g7 A p:Nat} {f1 f2 f3 f4:Bool} {w:World} (h:Rtl gx g7 A f1 f2 f3 f4 w) (hx:p≠gx) (h7:p≠g7) (k:Nat) (v:Value):Rtl gx g7 A f1 f2 f3 f4 (w.setCell ⟨p,k,none⟩ v):=by
 have hk:=Kept.cell_ w p k v
 exact⟨(hk.cell (p:=⟨gx,3,none⟩) (fun e=>hx e.symm)).trans h.g3,(hk.cell (p:=⟨g7,0,none⟩) (fun e=>h7 e.symm)).trans h.c0,(hk.cell (p:=⟨g7,1,none⟩) (fun e=>h7 e.symm)).trans h.c1,(hk.cell (p:=⟨g7,2,none⟩) (fun e=>h7 e.symm)).trans h.c2,(hk.cell (p:=⟨g7,3,none⟩) (fun e=>h7 e.symm)).trans h.c3⟩
theorem Rtl.drew {gx g7 A:Nat} {f1 f2 f3 f4:Bool} {w:World} (h:Rtl gx g7 A f1 f2 f3 f4 w):Rtl gx g7 A f1 f2 f3 f4 w.drew:=⟨h.g3,h.c0,h.c1,h.c2,h.c3⟩
theorem Rtl.all {gx g7 A:Nat} {f1 f2 f3 f4:Bool} {w:World} (h:Rtl gx g7 A f1 f2 f3 f4 w):Rtl gx g7 A f1 f2 f3 f4 w∧w.cell? ⟨gx,3,none⟩=some (.int .i64 A)∧w.cell? ⟨g7,0,none⟩=some (.bool f1)∧w.cell? ⟨g7,1,none⟩=some (.bool f2)∧w.cell? ⟨g7,2,none⟩=some (.bool f3)∧w.cell? ⟨g7,3,none⟩=some (.bool f4):=⟨h,h.g3,h.c0,h.c1,h.c2,h.c3⟩
theorem Reck.all {N g p A B:Nat} {op b0 h0:Int} {u f1 f2 f3 f4:Bool} {W0 w:World} (h:Reck N g p A B op b0 h0 u f1 f2 f3 f4 W0 w):Reck N g p A B op b0 h0 u f1 f2 f3 f4 W0 w∧w.cell? ⟨g,6,none⟩=some (.int .i64 op)∧w.cell? ⟨g,1,none⟩=some (.bool u)∧w.cell? ⟨g,4,none⟩=some (.int .i64 B)∧w.cell? ⟨p,B,none⟩=some (.int .u32 b0)∧w.cell? ⟨p,16,none⟩=some (.int .u32 h0)∧w.cell? ⟨p,17,none⟩=some (.bool f1)∧w.cell? ⟨p,18,none⟩=some (.bool f2)∧w.cell? ⟨p,19,none⟩=some (.bool f3)∧w.cell? ⟨p,20,none⟩=some (.bool f4):=
 ⟨h,h.g6,h.g1,h.g4,h.pB,h.p16,h.p17,h.p18,h.p19,h.p20⟩
end Go.Proofs.YtceflhffilldeaaGreat
