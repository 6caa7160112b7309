/-
  Joined: ZLdPl.
-/
import Derived.Laws.MakeOwn
import Derived.Test.YtceflhffilldeaaGreatZLdI
import Derived.Great.CaseRows
import Derived.Deep.CutRange
set_option linter.unusedVariables false
set_option linter.unusedSimpArgs false
set_option maxRecDepth 100000
set_option maxHeartbeats 16000000
namespace Go.Proofs.YtceflhffilldeaaGreat
open Go.RowKit Bw
theorem image_first (n:Int) (w:World) (h0:-9223372036854775808≤n) (h1:n≤9223372036854775807):Calls Tryz.prog 66 #[.int .i64 n] w fun e w'=>e=.returned (.int .i64 (Boot.first n))∧w=w':=by
 unfold Boot.first
 by_cases h:0≤n∧n≤16
 ·rw[if_pos h]
  obtain⟨a,b⟩:=h
  go_enter Tryz.func66,Tryz.ntmps66
  go_wp2_with fail
  go_ret
  exact⟨rfl,rfl⟩
 ·rw[if_neg h]
  by_cases h2:n<0
  ·go_enter Tryz.func66,Tryz.ntmps66
   go_wp2_with fail
   go_ret
   exact⟨rfl,rfl⟩
  ·have h3:16<n:=by omega
   go_enter Tryz.func66,Tryz.ntmps66
   go_wp2_with fail
   go_ret
   exact⟨rfl,rfl⟩
theorem insAt_cells (w:World) (t:TypeId) (xs:List Ins) (cs:Array Value) (h:cs=(xs.flatMap fun x=>x.cells.toList).toArray):InsAt (w.alloc (.cells cs t)) w.heap.size xs:=by
 subst h
 refine⟨by simp,fun k x hx j v hv=>?_⟩
 rw[cell_of_row _ _ _ _ _ _ (heap_alloc_new w _)]
 have key:∀ (xs:List Ins) (k:Nat),xs[k]?=some x→(xs.flatMap fun x=>x.cells.toList)[k*8+j]?=some v:=by
  intro xs
  induction xs with
  | nil=>intro k hk;simp at hk
  | cons y ys ih=>
   intro k hk
   have hl:y.cells.toList.length=8:=rfl
   rw[List.flatMap_cons]
   cases k with
   | zero=>
    simp at hk
    subst hk
    rw[Nat.zero_mul,Nat.zero_add,List.getElem?_append_left (by have:=(List.getElem?_eq_some_iff.1 hv).1;omega)]
    exact hv
   | succ k=>
    rw[List.getElem?_append_right (by omega),hl,show (k+1)*8+j-8=k*8+j by omega]
    exact ih k (by simpa using hk)
 simpa using key xs k hx
theorem own_cells {w:World} {base:Nat} {n:Nat} {v:Value} {xs:List Value} (h:w.ownsRow base 37 1 v n xs) (hn:0<n):∃ g cap,v=.slice (some ⟨g,0,none⟩) n cap∧xs.length=n*1∧∀ j u,xs[j]?=some u→w.cell? ((⟨g,0,none⟩:Addr).add j)=some u:=by
 obtain⟨g,cap,hv,_,hlt⟩:=h.form hn
 exact⟨g,cap,hv,h.1,h.cells (g:=g) (by rw[hv];rfl)⟩
theorem words_one (xs:List Ins):∀ u∈(xs.map fun x=>Value.int .u32 x.E),u.oneCell'=true:=by
 intro u hu
 simp only[List.mem_map] at hu
 obtain⟨x,_,rfl⟩:=hu
 rfl
theorem i64_and65535 (n:Int):bits .and .i64 n 65535=n % 65536:=by
 have h127:(BitVec.ofInt 64 65535).toNat=2 ^ 16-1:=by decide
 have key:(BitVec.ofInt 64 n &&& BitVec.ofInt 64 65535).toNat=(n % ((2 ^ 64:Nat):Int)).toNat % 2 ^ 16:=by
  rw[BitVec.toNat_and,BitVec.toNat_ofInt,h127,Nat.and_two_pow_sub_one_eq_mod]
 show IntKind.i64.wrap ((BitVec.ofInt 64 n &&& BitVec.ofInt 64 65535).toNat:Nat)=n % 65536
 rw[key,IntKind.wrap_i64]
 omega
theorem make8 (w:World):(Instr.makeSlice 30 (.int .i64 8) (.int .i64 8)).run Tryz.prog w=.ok (.slice (some ⟨w.heap.size,0,none⟩) 8 8) (w.alloc (.cells #[.int .u32 0,.int .u32 0,.int .u32 0,.int .u32 0,.int .u32 0,.int .u32 0,.int .u32 0,.int .u32 0] 37)):=by
 obtain⟨i0,hi0,hz0,hz1,hz2⟩:=info_parts u32_info
 have h:=run_makeSlice (P:=Tryz.prog) w 30 37 i0 (.int .u32 0) Tryz.underlying30 hi0 hz0 .i64 .i64 8 8 (by decide) (by decide) (by rw[hz1];decide) (by rw[hz2];decide) (by decide)
 rw[hz1] at h
 rw[show madeCells (Value.int .u32 0).cells (Int.toNat 8*1)=#[.int .u32 0,.int .u32 0,.int .u32 0,.int .u32 0,.int .u32 0,.int .u32 0,.int .u32 0,.int .u32 0] by kernel_rfl] at h
 exact h
theorem zeros_own (w:World):(w.alloc (.cells #[.int .u32 0,.int .u32 0,.int .u32 0,.int .u32 0,.int .u32 0,.int .u32 0,.int .u32 0,.int .u32 0] 37)).ownsRow w.heap.size 37 1 (.slice (some ⟨w.heap.size,0,none⟩) 8 8) 8 (Boot.zeros.map (Value.int .u32)):=
 ⟨rfl,Or.inr ⟨w.heap.size,8,_,rfl,Nat.le_refl _,heap_alloc_new w _,Nat.le_refl _,by decide,rfl,rfl⟩⟩
theorem image_boot_ok (size:Int) (es:List Int) (v:Value) (w:World) (hv:Row .i64 w v es) (hok:Boot.ok size es=true) :
  Calls Tryz.prog 49 #[.int .i64 size,v] w fun e w'=>∃ u,e=.returned (.tuple #[u,.int .i64 0])∧w'.ownsRow w.heap.size 37 1 u (es.length+13) ((Boot.words size es).map (Value.int .u32))∧Below w.heap.size w w':=by
 simp only[Boot.ok,Boot.sized,Boot.inside,Bool.and_eq_true,decide_eq_true_eq] at hok
 obtain⟨⟨⟨h1,h2⟩,h3⟩,h4⟩:=hok
 obtain⟨hm,A,c,rfl,hc⟩:=hv
 have hc:=zh hc
 have h4:=zh h4
 have h3':(es.length:Int)≤16:=by omega
 obtain⟨i0,hi0,hz0,hz1,hz2⟩:=info_parts u32_info
 have MK:=make8
 have e1:bits .and .i64 (4*size) 65535=4*size % 65536:=by
  rw[i64_and65535]
 go_enter Tryz.func49,Tryz.ntmps49
 go_wp2_with fail
 have Z0:=zh (zeros_own w)
 have B0:Below w.heap.size w (w.alloc (.cells #[.int .u32 0,.int .u32 0,.int .u32 0,.int .u32 0,.int .u32 0,.int .u32 0,.int .u32 0,.int .u32 0] 37)):=(Below.refl _ _).alloc (Nat.le_refl _) _
 have z0:(w.alloc (.cells #[.int .u32 0,.int .u32 0,.int .u32 0,.int .u32 0,.int .u32 0,.int .u32 0,.int .u32 0,.int .u32 0] 37)).heap.size=w.heap.size+1:=by simp
 rw[← z0]
 generalize w.alloc (.cells #[.int .u32 0,.int .u32 0,.int .u32 0,.int .u32 0,.int .u32 0,.int .u32 0,.int .u32 0,.int .u32 0] 37)=W at *
 have z0:=zh z0
 refine(image_words [Boot.hi (4*size / 65536),Boot.lo (4*size % 65536)] W.heap.size 2 _ (insAt_cells W _ _ _ rfl) (by simp[Boot.hi,Boot.lo,Ins.fits];omega) (by simp)).mono ?_
 rintro e w1 ⟨u1,rfl,ho1,hb1⟩
 obtain⟨g1,c1,rfl,l1,x1⟩:=own_cells ho1 (by simp)
 have Z1:=zh (own_below (Z0.out.alloc _) hb1)
 have B1:Below w.heap.size w w1:=(B0.alloc B0.size _).trans (hb1.mono (by simp;exact Nat.le_succ_of_le B0.size))
 have x1:=zh x1
 clear hb1 B0
 go_wp2_with (at_builtin;refine wpList_append_own _ rfl (.tmp 24) (.tmp 32) 30 rfl w.heap.size 37 i0 _ 1 4 Tryz.underlying30 hi0 hz0 hz1 hz2 rfl (by omega) _ 8 _ rfl Z1.out ⟨g1,0,none⟩ 2 c1 _ rfl l1 x1.out (words_one _) (by simp only[maxLen];omega) (by omega) B1.size ?_;intro v2 w2 ho2 hg2 _)
 have H2:Hid (w2.ownsRow w.heap.size 37 1 v2 (10+0) ((Boot.zeros++(Boot.ins size es 0).map Ins.E).map (Value.int .u32))):=zh ho2
 have B2:Below w.heap.size w w2:=B1.grown hg2 B1.size (fun k hk=>by have:=Z1.out.lt k hk;exact this.1)
 clear ho2 hg2 Z1 x1 l1 ho1 B1 Z0 z0
 go_wp2_with fail
 go_loopw [6,36] (fun o i wr=>∃ k:Nat,i=.int .i64 k∧k≤es.length∧wr.ownsRow w.heap.size 37 1 o (10+k) ((Boot.zeros++(Boot.ins size es k).map Ins.E).map (Value.int .u32))∧Below w.heap.size w wr) (fun _ i _=>es.length-(intOf i).toNat)
 case atStart=>exact⟨0,rfl,by omega,H2.out,B2⟩
 case round=>
  clear H2
  obtain⟨k,rfl,hk,hown,hb⟩:=hrel
  by_cases hlt:(k:Int)<(es.length:Int)
  ·obtain⟨ad,rfl,had,hcell⟩:=hc.out k (by omega)
   have hcell':=(hb.cell (p:=ad.add k) (by rw[block_add];exact had)).trans hcell
   obtain⟨e0,e1'⟩:=h4.out k (by omega)
   have hs:=zh (Boot.ins_succ size es k)
   generalize es.getD k 0=e at *
   obtain⟨g3,c3,rfl,l3,x3⟩:=own_cells hown (by omega)
   have hown:=zh hown
   clear l3 x3 hcell
   go_wp2_with fail
   refine(image_words [Boot.call (e-(10+k)-1)] wr.heap.size 1 _ (insAt_cells wr _ _ _ rfl) (by simp[Boot.call,Ins.fits];omega) (by simp)).mono ?_
   rintro e w3 ⟨u3,rfl,ho3,hb3⟩
   obtain⟨g4,c4,rfl,l4,x4⟩:=own_cells ho3 (by simp)
   have Z3:=zh (own_below (hown.out.alloc _) hb3)
   have B3:Below w.heap.size w w3:=(hb.alloc hb.size _).trans (hb3.mono (by simp;exact Nat.le_succ_of_le hb.size))
   have x4:=zh x4
   clear hb3 ho3 hown hb
   go_wp2_with (at_builtin;refine wpList_append_own _ rfl (.tmp 47) (.tmp 55) 30 rfl w.heap.size 37 i0 _ 1 4 Tryz.underlying30 hi0 hz0 hz1 hz2 rfl (by omega) _ (10+k) _ rfl Z3.out ⟨g4,0,none⟩ 1 c4 _ rfl l4 x4.out (words_one _) (by simp only[maxLen];omega) (by omega) B3.size ?_;intro v5 w5 ho5 hg5 _)
   have H5:=zh ho5
   have B5:Below w.heap.size w w5:=B3.grown hg5 B3.size (fun k hk=>by have:=Z3.out.lt k hk;exact this.1)
   clear ho5 hg5 Z3 x4 l4 B3
   go_wp2_with fail
   refine⟨⟨k+1,by go_num,by omega,?_,B5⟩,by simp[intOf];omega⟩
   have:=H5.out
   rw[hs.out]
   simpa [List.map_append,Function.comp_def,Nat.add_assoc] using this
  ·obtain rfl:k=es.length:=by omega
   obtain⟨g3,c3,rfl,l3,x3⟩:=own_cells hown (by omega)
   have hown:=zh hown
   clear l3 x3 hlt hk
   go_wp2_with fail
   refine(image_words Boot.fin wr.heap.size 3 _ (insAt_cells wr _ _ _ rfl) (by simp[Boot.fin,Ins.fits]) (by simp[Boot.fin])).mono ?_
   rintro e w3 ⟨u3,rfl,ho3,hb3⟩
   obtain⟨g4,c4,rfl,l4,x4⟩:=own_cells ho3 (by simp[Boot.fin])
   have Z3:=zh (own_below (hown.out.alloc _) hb3)
   have B3:Below w.heap.size w w3:=(hb.alloc hb.size _).trans (hb3.mono (by simp;exact Nat.le_succ_of_le hb.size))
   have x4:=zh x4
   clear hb3 ho3 hown hb
   go_wp2_with (at_builtin;refine wpList_append_own _ rfl (.tmp 58) (.tmp 63) 30 rfl w.heap.size 37 i0 _ 1 4 Tryz.underlying30 hi0 hz0 hz1 hz2 rfl (by omega) _ (10+es.length) _ rfl Z3.out ⟨g4,0,none⟩ 3 c4 _ rfl l4 x4.out (words_one _) (by simp only[maxLen];omega) (by omega) B3.size ?_;intro v5 w5 ho5 hg5 _)
   have H5:=zh ho5
   have B5:Below w.heap.size w w5:=B3.grown hg5 B3.size (fun k hk=>by have:=Z3.out.lt k hk;exact this.1)
   clear ho5 hg5 Z3 x4 l4 B3
   go_wp2_with fail
   go_ret2
   refine⟨v5,rfl,?_,B5⟩
   have:=H5.out
   rw[show es.length+13=10+es.length+3 by omega,Boot.words]
   simpa [List.map_append,Function.comp_def,Nat.add_assoc,Boot.fin] using this
end Go.Proofs.YtceflhffilldeaaGreat
namespace Go.Proofs.YtceflhffilldeaaGreat
open Go.RowKit ObjL Ldr Go.Maps Go.WideMaps
section
variable {c d B lp mb sp n:Nat} {w w':World} {D:DataW Unit} {vO:Value} {xs:List OM} {s:LS}
theorem LdAt.im_n (h:LdAt c d B lp mb sp w n D vO xs s):s.im.n=xs.length:=by show s.objs.length=_;rw[h.objs,List.length_map]
theorem LdAt.im_ob (h:LdAt c d B lp mb sp w n D vO xs s) {i:Nat} (hi:i<xs.length):s.im.ob i=xs[i].o:=by
 rw[Im.ob_eq (m:=s.im) (by rw[h.im_n];exact hi)]
 show s.objs[i]'_=_
 simp only[h.objs,List.getElem_map]
theorem LdAt.place (h:LdAt c d B lp mb sp w n D vO xs s) (h1:0<xs.length):∃ go kk,vO=.slice (some ⟨go,0,none⟩) xs.length kk∧go<w.heap.size:=by
 obtain⟨A,kk,rfl⟩:=h.slice
 rcases h.row.2 with ⟨e1,e2⟩ | ⟨g,cap,cur,e1,-,hh,-⟩
 ·omega
 ·injection e1 with e1 _ e3
  subst e1
  exact⟨g,kk,rfl,(Array.getElem?_eq_some_iff.1 hh).1⟩
theorem LdAt.range {go kk:Nat} (h:LdAt c d B lp mb sp w n D (.slice (some ⟨go,0,none⟩) xs.length kk) xs s) {k:Nat} (hk:k<xs.length):w.rangeAt go (k*10) xs[k].cells:=fun j u hu=>by
 have hj:j<10:=by have:=(List.getElem?_eq_some_iff.1 hu).1;rwa [OM.cells_len] at this
 have h1:=h.row.cells (g:=go) rfl (k*10+j) u (by rw[← hu];exact flat10 xs k j hk hj)
 rw[tk_add] at h1
 rw[show 0+(k*10+j)=k*10+j by omega] at h1
 exact h1
structure OForm (w:World) (x:OM) (AU:Option Addr) (cU:Nat) (AD:Option Addr) (cD:Nat) (AC:Option Addr) (cC:Nat) (AE:Option Addr) (cE:Nat):Prop where
 eq:x.cells=(obCells x.o (.slice AU x.o.uses.length cU) (.slice AD x.o.descs.length cD) (.slice AC x.o.code.length cC) (.slice AE x.o.entries.length cE)).toList
 uses:URow w (.slice AU x.o.uses.length cU) x.o.uses
 descs:DRow w (.slice AD x.o.descs.length cD) x.o.descs
 code:Row .u32 w (.slice AC x.o.code.length cC) x.o.code
 entries:Row .i64 w (.slice AE x.o.entries.length cE) x.o.entries
theorem OmAt.form {w:World} {x:OM} (h:OmAt w x):∃ AU cU AD cD AC cC AE cE,OForm w x AU cU AD cD AC cC AE cE:=by
 obtain⟨h1,h2,h3,h4⟩:=h.parts
 have g1:=h1;have g2:=h2;have g3:=h3;have g4:=h4
 obtain⟨-,AU,cU,ex1,-⟩:=h1
 obtain⟨-,AD,cD,ex2,-⟩:=h2
 obtain⟨-,AC,cC,ex3,-⟩:=h3
 obtain⟨-,AE,cE,ex4,-⟩:=h4
 rw[ex1] at g1;rw[ex2] at g2;rw[ex3] at g3;rw[ex4] at g4
 refine⟨AU,cU,AD,cD,AC,cC,AE,cE,⟨?_,g1,g2,g3,g4⟩⟩
 unfold OM.cells
 rw[ex1,ex2,ex3,ex4]
end
theorem still_below {w w':World} (h:Kept (fun _=>True) w w'):Below w.heap.size w w':=h.to_below fun _ _=>trivial
theorem ld_ps {p:Int} {n:Nat} (h0:0≤p-1) (h1:p-1<n) (h2:n≤16):1≤p∧p≤16:=by omega
theorem ld_wq (q:Nat) (h:q≤16):((q:Int)+1==0)=false∧wrap64 ((q:Int)+1-1)=q∧(q:Int)+1-1=q∧wrap64 (q:Int)=q∧IntKind.i64.wrap (q:Int)=q:=
 ⟨by rw[beq_eq_false_iff_ne];omega,by unfold wrap64;omega,by omega,by unfold wrap64;omega,by rw[IntKind.wrap_i64];omega⟩
theorem ld_wp (ps:Int) (h0:1≤ps) (h1:ps≤16):wrap64 (ps-1)=ps-1∧IntKind.i64.wrap (ps-1)=ps-1:=⟨by unfold wrap64;omega,by rw[IntKind.wrap_i64];omega⟩
theorem im_used0 (m:Im) (i:Nat):m.used i 0=i:=by unfold Im.used;rw[if_pos rfl]
theorem im_usedS (m:Im) (i q:Nat) (hq:q<(m.ob i).uses.length):m.used i ((q:Int)+1)=m.pos ((m.ob i).uses[q]).1-1:=by
 unfold Im.used
 rw[if_neg (by omega),show ((q:Int)+1-1).toNat=q by omega,List.getD_eq_getElem?_getD,List.getElem?_eq_getElem hq]
 rfl
theorem used_ok (B lp mb sp n:Nat) (D:DataW Unit) (vO:Value) (xs:List OM) (s:LS) (w:World) (h:LdAt 0 0 B lp mb sp w n D vO xs s) (hm:s.im.Ok) (i:Nat) (hi:i<xs.length) (N:Int) (h0:0≤N) (h1:N≤(s.im.ob i).uses.length) :
  Calls Tryz.prog 68 #[.pointer (some ⟨lp,0,none⟩),.int .i64 i,.int .i64 N] w fun e w'=>e=.returned (.int .i64 (s.im.used i N))∧Kept (fun _=>True) w w':=by
 by_cases hN:N=0
 ·subst hN
  rw[im_used0]
  clear h h0 h1 hm
  go_enter Tryz.func68,Tryz.ntmps68
  go_wp2_with fail
  go_ret
  exact⟨rfl,Kept.refl _ _⟩
 ·obtain⟨q,rfl⟩:∃ q:Nat,N=(q:Int)+1:=⟨(N-1).toNat,by omega⟩
  have hq:q<(s.im.ob i).uses.length:=by omega
  have hub:=Im.used_bd hm (by rw[h.im_n];exact hi) h0 h1
  have hfew:=hm.few
  have hu16:=(hm.fit (i:=i) (by rw[h.im_n];exact hi)).uses
  rw[im_usedS _ _ _ hq] at hub ⊢
  have hob:=h.im_ob hi
  have hnm:((s.im.ob i).uses[q]).1.length≤100000:=good_names (hm.good i (by rw[h.im_n];exact hi)) _ (List.getElem_mem hq)
  obtain⟨go,kk,rfl,hgo⟩:=h.place (by omega)
  obtain⟨AU,cU,AD,cD,AC,cC,AE,cE,F⟩:=(h.oms xs[i] (List.getElem_mem hi)).form
  have hr:=h.range hi
  rw[F.eq] at hr
  have x2:w.cell? ⟨go,i*10+2,none⟩=some (.slice AU xs[i].o.uses.length cU):=hr 2 _ rfl
  have c1:=h.blk.cell 1
  have c3:=h.blk.cell 3
  simp only[gAr,gC0,gCs] at c1 c3
  have hfu:=F.uses
  rw[← hob] at x2 hfu
  obtain⟨ad,rfl,hal,hcc⟩:=row_at hfu q hq
  obtain⟨y,hy,hyu⟩:=hcc 0 (by omega)
  obtain rfl:=hyu.1 rfl
  have x4:w.cell? (ad.add (q*2))=some (.string (txt ((s.im.ob i).uses[q]).1)):=hy
  have hlk:=SMap.look (w:=w.drew) (show SMap w.drew mb n D from h.map) (t:=((s.im.ob i).uses[q]).1) (by omega)
  rw[h.pos] at hlk
  have e0:s.im.pos=s.pos:=rfl
  rw[e0] at hub ⊢
  generalize ((s.im.ob i).uses[q]).1=t at *
  have hps:1≤s.pos t∧s.pos t≤16:=ld_ps hub.1 hub.2 hfew
  generalize s.pos t=ps at *
  obtain⟨hneq,hw1,hw1b,hw3,hw4⟩:=ld_wq q (Nat.le_trans (Nat.le_of_lt hq) hu16)
  obtain⟨hw2,hw5⟩:=ld_wp ps hps.1 hps.2
  have hql:(q:Int)<((s.im.ob i).uses.length:Int):=Int.ofNat_lt.2 hq
  have hil:(i:Int)<(xs.length:Int):=Int.ofNat_lt.2 hi
  clear h hm F hr hfu hcc hy hyu hob hub e0 hN h0 h1 hu16 hnm hgo hfew hal hps
  clear hq
  generalize (s.im.ob i).uses.length=ul at *
  clear hi
  generalize xs.length=xl at *
  go_enter Tryz.func68,Tryz.ntmps68
  go_wp2_with fail
  refine region_drew 18 (by kernel_rfl) (by kernel_rfl) ?_
  simp only[List.take_succ_cons,List.take_zero,List.drop_succ_cons,List.drop_zero]
  repeat still_step
  refine wpStill_nil ?_
  go_wp2_with fail
  go_ret
  exact⟨rfl,(Kept.refl _ w).drew⟩
end Go.Proofs.YtceflhffilldeaaGreat
namespace Go.Proofs.YtceflhffilldeaaGreat
open Go.RowKit ObjL Ldr Go.Maps Go.WideMaps
abbrev plT:TypeId:=39
def plCells (o:Ob) (p:Pl):Array Value:=#[.string (txt o.name),.int .u32 o.key,.int .i64 p.descs,.int .i64 p.data,.int .i64 p.strings,.int .i64 p.code]
def modCells (m:Im) (k:Nat):List Value:=(List.range k).flatMap fun i=>(plCells (m.ob i) (m.pl i)).toList
theorem modCells_succ (m:Im) (k:Nat):modCells m (k+1)=modCells m k++(plCells (m.ob k) (m.pl k)).toList:=by
 unfold modCells
 rw[List.range_succ,List.flatMap_append]
 simp
theorem modCells_len (m:Im) (k:Nat):(modCells m k).length=k*6:=by
 induction k with
 | zero=>rfl
 | succ k ih=>rw[modCells_succ,List.length_append,ih];simp[plCells];omega
theorem modCells_at (m:Im) (i j:Nat) (hj:j<6):∀ n,i<n→(modCells m n)[i*6+j]?=(plCells (m.ob i) (m.pl i))[j]?
 | 0,hi=>absurd hi (by omega)
 | n+1,hi=>by
  rw[modCells_succ]
  by_cases h:i<n
  ·rw[List.getElem?_append_left (by rw[modCells_len];omega)]
   exact modCells_at m i j hj n h
  ·obtain rfl:i=n:=by omega
   rw[List.getElem?_append_right (by rw[modCells_len];omega),modCells_len,show i*6+j-i*6=j by omega]
   simp
theorem pl_info:(Tryz.prog.info? plT).map (fun i=>(i.zero,i.size,i.bytes))=some (some (.agg #[.string ⟨#[]⟩,.int .u32 0,.int .i64 0,.int .i64 0,.int .i64 0,.int .i64 0]),6,56):=by kernel_rfl
theorem places_ok (B lp mb sp n:Nat) (D:DataW Unit) (vO:Value) (xs:List OM) (s:LS) (w:World) (h:LdAt 0 0 B lp mb sp w n D vO xs s) (hm:s.im.Ok) :
  Calls Tryz.prog 47 #[.pointer (some ⟨lp,0,none⟩)] w fun e w'=>∃ v,e=.returned (.tuple #[v,.int .i64 s.im.end_])∧w'.ownsRow w.heap.size plT 6 v xs.length (modCells s.im xs.length)∧Below w.heap.size w w':=by
 have hl1:1≤xs.length:=by rw[← h.im_n];exact hm.one
 have hxl:xs.length≤16:=by rw[← h.im_n];exact hm.few
 obtain⟨go,kk,rfl,hgo⟩:=h.place (by omega)
 have c3:=h.blk.cell 3
 simp only[gAr,gC0,gCs] at c3
 have hF:=zh (image_first xs.length)
 have hf0:Boot.first (xs.length:Int)=s.im.at_ 0:=by show _=Boot.first (s.im.n:Int);rw[h.im_n]
 rw[hf0] at hF
 have hn:=zh h.im_n
 have hh:=zh h
 have hmh:=zh hm
 obtain⟨i0,hi0,hz0,hz1,hz2⟩:=info_parts pl_info
 clear h hm hf0
 go_enter Tryz.func47,Tryz.ntmps47
 go_wp2_with fail
 refine(hF.out _ (by omega) (by omega)).mono ?_
 rintro e w' ⟨rfl,rfl⟩
 clear hF
 go_wp2_with fail
 go_loopw [4,5,20] (fun v a i wr=>∃ k:Nat,i=.int .i64 k∧k≤xs.length∧a=.int .i64 (s.im.at_ k)∧Hid (wr.ownsRow w.heap.size plT 6 v k (modCells s.im k)∧Below w.heap.size w wr)) (fun _ _ i _=>xs.length-(intOf i).toNat)
 case atStart=>exact⟨0,rfl,by omega,rfl,zh ⟨World.ownsRow_nil _ _ _ _,Below.refl _ _⟩⟩
 case round=>
  obtain⟨k,rfl,hk,rfl,hI⟩:=hrel
  obtain⟨i2,i3⟩:=hI.out
  obtain⟨vA,vc,rfl⟩:=own_slice i2
  by_cases hlt:(k:Int)<(xs.length:Int)
  ·have hkl:k<xs.length:=by omega
   have hkn:k<s.im.n:=by rw[hn.out];exact hkl
   have hb:=hh.out.below i3
   have hr:=hb.range hkl
   obtain⟨AU,cU,AD,cD,AC,cC,AE,cE,F⟩:=(hb.oms xs[k] (List.getElem_mem hkl)).form
   rw[F.eq] at hr
   have hrh:=zh hr
   have hob:=hb.im_ob hkl
   rw[← hob] at hrh
   have hsn:=zh (modCells_succ s.im k)
   obtain⟨p0,p1,p2,p3,p4⟩:=Im.pl_ok (m:=s.im) k
   obtain⟨f1,f2,f3,f4,f5,f6,f7,-,-,-⟩:=hmh.out.fit hkn
   have hbd:=Im.at_bd hmh.out k (by omega)
   have hps:Hid (s.im.at_ (k+1)=(s.im.pl k).code+((s.im.ob k).code.length:Int)):=zh p4
   have hwk:w.heap.size≤wr.heap.size:=i3.size
   clear F hb hr hob hI p4
   generalize s.im.ob k=x at *
   generalize s.im.pl k=pl at *
   generalize ha0:s.im.at_ (k+1)=a1 at *
   have ha1:=zh ha0
   clear ha0
   generalize s.im.at_ k=a0 at *
   have s1:Hid ((Tryz.prog.info? obT).map (·.size)=some (obCells x (.slice AU x.uses.length cU) (.slice AD x.descs.length cD) (.slice AC x.code.length cC) (.slice AE x.entries.length cE)).size):=zh (by kernel_rfl)
   have s2:Hid ((Tryz.prog.info? obT).map (·.size)=some (obCells x (.slice AU x.uses.length cU) (.slice AD x.descs.length cD) (.slice AC x.code.length cC) (.slice AE x.entries.length cE)).toList.length):=zh (by kernel_rfl)
   have s3:Hid ((#[.string ⟨#[]⟩,.int .u32 0,.slice none 0 0,.slice none 0 0,.int .i64 0,.string ⟨#[]⟩,.slice none 0 0,.slice none 0 0,.int .i64 0,.int .i64 0]:Array Value).size=(obCells x (.slice AU x.uses.length cU) (.slice AD x.descs.length cD) (.slice AC x.code.length cC) (.slice AE x.entries.length cE)).size):=zh rfl
   have s4:Hid ((obCells x (.slice AU x.uses.length cU) (.slice AD x.descs.length cD) (.slice AC x.code.length cC) (.slice AE x.entries.length cE)).all (·.oneCell')=true):=zh (by simp only[obCells,List.all_toArray,List.all_cons,List.all_nil];simp[Value.oneCell'])
   have L2:=Blk.new wr obT (obCells x (.slice AU x.uses.length cU) (.slice AD x.descs.length cD) (.slice AC x.code.length cC) (.slice AE x.entries.length cE))
   have i2b:=zh (i2.alloc (.cells (obCells x (.slice AU x.uses.length cU) (.slice AD x.descs.length cD) (.slice AC x.code.length cC) (.slice AE x.entries.length cE)) obT))
   have i3b:=zh (i3.alloc i3.size (.cells (obCells x (.slice AU x.uses.length cU) (.slice AD x.descs.length cD) (.slice AC x.code.length cC) (.slice AE x.entries.length cE)) obT))
   clear i2 i3
   go_upto_region 6 with (first | (refine wpList_load_mid rfl 48 (.tmp 22) rfl go (k*10) rfl (obCells x (.slice AU x.uses.length cU) (.slice AD x.descs.length cD) (.slice AC x.code.length cC) (.slice AE x.entries.length cE)).toList _ hrh.out Tryz.underlying48 rfl s2.out ?_) | (refine wpList_store_last rfl 48 (.tmp 7) (.tmp 23) rfl wr (obCells x (.slice AU x.uses.length cU) (.slice AD x.descs.length cD) (.slice AC x.code.length cC) (.slice AE x.entries.length cE)) _ _ rfl rfl rfl s1.out s3.out s4.out ?_))
   have n0:=L2.cell 0
   have n1:=L2.cell 1
   have n3:=L2.cell 3
   have n4:=L2.cell 4
   have n5:=L2.cell 5
   have n6:=L2.cell 6
   simp only[obCells,gAr,gC0,gCs] at n0 n1 n3 n4 n5 n6
   have hgl:=L2.lt
   unfold obCells at *
   generalize wr.alloc _=W at *
   generalize wr.heap.size=gz at *
   clear hrh s1 s2 s3 s4 L2
   have hss:=txt_size x.strings
   have hnew:Hid ((#[.string (txt x.name),.int .u32 x.key,.int .i64 a0,.int .i64 (a0+6*(x.descs.length:Int)),.int .i64 (a0+6*(x.descs.length:Int)+x.data),.int .i64 (a0+6*(x.descs.length:Int)+x.data+(x.strings.length:Int) / 4)]:Array Value)=plCells x pl):=zh (by unfold plCells;rw[p3,p2,p1,p0])
   have hae:Hid (a0+6*(x.descs.length:Int)+x.data+(x.strings.length:Int) / 4+(x.code.length:Int)=a1):=zh (by rw[hps.out,p3,p2,p1])
   have hwk2:=zh hwk
   clear p0 p1 p2 p3 hps hwk
   go_upto_region 11 with fail
   clear n0 n1 n3 n4 n5 n6
   have L3:=Blk.new W plT #[.string (txt x.name),.int .u32 x.key,.int .i64 a0,.int .i64 (a0+6*(x.descs.length:Int)),.int .i64 (a0+6*(x.descs.length:Int)+x.data),.int .i64 (a0+6*(x.descs.length:Int)+x.data+(x.strings.length:Int) / 4)]
   have c0:=L3.cell 0
   have c1:=L3.cell 1
   have c2:=L3.cell 2
   have c3':=L3.cell 3
   have c4:=L3.cell 4
   have c5:=L3.cell 5
   simp only[gAr,gC0,gCs] at c0 c1 c2 c3' c4 c5
   have i2c:=zh (i2b.out.alloc (.cells #[.string (txt x.name),.int .u32 x.key,.int .i64 a0,.int .i64 (a0+6*(x.descs.length:Int)),.int .i64 (a0+6*(x.descs.length:Int)+x.data),.int .i64 (a0+6*(x.descs.length:Int)+x.data+(x.strings.length:Int) / 4)] plT))
   have i3c:=zh (i3b.out.alloc i3b.out.size (.cells #[.string (txt x.name),.int .u32 x.key,.int .i64 a0,.int .i64 (a0+6*(x.descs.length:Int)),.int .i64 (a0+6*(x.descs.length:Int)+x.data),.int .i64 (a0+6*(x.descs.length:Int)+x.data+(x.strings.length:Int) / 4)] plT))
   clear L3 i2b i3b hwk2 hss
   generalize W.alloc _=W2 at *
   generalize W.heap.size=g2 at *
   go_wp2_with (at_builtin;go_loud (refine wpList_append_own _ rfl (.tmp 58) (.tmp 60) 31 rfl w.heap.size plT i0 _ 6 56 Tryz.underlying31 hi0 hz0 hz1 hz2 rfl (by omega) _ k _ rfl (i2c.out.alloc _) ⟨W2.heap.size,0,none⟩ 1 1 (#[.string (txt x.name),.int .u32 x.key,.int .i64 a0,.int .i64 (a0+6*(x.descs.length:Int)),.int .i64 (a0+6*(x.descs.length:Int)+x.data),.int .i64 (a0+6*(x.descs.length:Int)+x.data+(x.strings.length:Int) / 4)]:Array Value).toList rfl rfl (ld_news (cs:=#[.string (txt x.name),.int .u32 x.key,.int .i64 a0,.int .i64 (a0+6*(x.descs.length:Int)),.int .i64 (a0+6*(x.descs.length:Int)+x.data),.int .i64 (a0+6*(x.descs.length:Int)+x.data+(x.strings.length:Int) / 4)])) (by simp[Value.oneCell']) (by simp only[maxLen];omega) (by omega) (by have h1:=i3c.out.size;simp;omega) ?_);intro v3 w3 hown3 hg3 _;obtain⟨A3,k3,rfl⟩:=own_slice hown3;have G3:=zh hg3;have O3:=zh hown3)
   have K3:=Below.grown (i3c.out.alloc i3c.out.size (.cells #[.string (txt x.name),.int .u32 x.key,.int .i64 a0,.int .i64 (a0+6*(x.descs.length:Int)),.int .i64 (a0+6*(x.descs.length:Int)+x.data),.int .i64 (a0+6*(x.descs.length:Int)+x.data+(x.strings.length:Int) / 4)] plT)) G3.out (by have h1:=i3c.out.size;simp;omega) (fun q hq=>(i2c.out.lt q hq).1)
   have o4:=O3.out
   rw[hnew.out,← hsn.out] at o4
   exact⟨⟨k+1,by go_num,by omega,by show Value.int .i64 _=Value.int .i64 (s.im.at_ (k+1));rw[ha1.out,← hae.out],zh ⟨o4,K3⟩⟩,by simp[intOf];omega⟩
  ·obtain rfl:k=xs.length:=by omega
   have hE:=zh i2
   have hB:=zh i3
   have he:Hid (s.im.at_ xs.length=s.im.end_):=zh (by unfold Im.end_;rw[hn.out])
   clear i2 i3 hI
   go_wp2_with fail
   go_ret2
   exact⟨_,by rw[he.out];rfl,hE.out,hB.out⟩
end Go.Proofs.YtceflhffilldeaaGreat
namespace Go.Proofs.YtceflhffilldeaaGreat
open Go.RowKit ObjL Ldr Go.Maps Go.WideMaps
structure MRow (w:World) (gm:Nat) (m:Im):Prop where
 lt:gm<w.heap.size
 cells:w.rangeAt gm 0 (modCells m m.n)
theorem MRow.below {w w':World} {gm:Nat} {m:Im} (h:MRow w gm m) (hb:Below w.heap.size w w'):MRow w' gm m:=
 ⟨Nat.lt_of_lt_of_le h.lt hb.size,fun j u hu=>(hb.cell (p:=⟨gm,0+j,none⟩) h.lt).trans (h.cells j u hu)⟩
theorem MRow.range {w:World} {gm:Nat} {m:Im} (h:MRow w gm m) {i:Nat} (hi:i<m.n):w.rangeAt gm (i*6) (plCells (m.ob i) (m.pl i)).toList:=fun j u hu=>by
 have hj:j<6:=by have:=(List.getElem?_eq_some_iff.1 hu).1;simpa [plCells] using this
 have h1:=h.cells (i*6+j) u (by rw[modCells_at m i j hj _ hi,← hu,Array.getElem?_toList])
 rw[Nat.zero_add] at h1
 exact h1
def TwoS (lp go gm j:Nat) (vO:Value) (ob pl:Array Value) (w:World):Prop:=
 w.cell? ⟨lp,3,none⟩=some vO∧w.rangeAt go (j*10) ob.toList∧w.rangeAt gm (j*6) pl.toList
theorem TwoS.below {lp go gm j:Nat} {vO:Value} {ob pl:Array Value} {w w':World} (h:TwoS lp go gm j vO ob pl w) (hb:Below w.heap.size w w') (h1:lp<w.heap.size) (h2:go<w.heap.size) (h3:gm<w.heap.size):TwoS lp go gm j vO ob pl w':=
 ⟨(hb.cell (p:=⟨lp,3,none⟩) h1).trans h.1,fun i u hu=>(hb.cell (p:=⟨go,j*10+i,none⟩) h2).trans (h.2.1 i u hu),fun i u hu=>(hb.cell (p:=⟨gm,j*6+i,none⟩) h3).trans (h.2.2 i u hu)⟩
theorem step_store_row {P:Program} {ops:Array Oper} {o:Oper} {a:Act} {K:Act→World→Prop} {Q:Exit→Act→World→Prop} {E:Prop} {w:World} (hgd:o.guard=none) (ty:TypeId) (x y:Operand) (ho:o.op=.store ty x y)
  (g:Nat) (cells:Array Value) (hx:a.eval x=.pointer (some ⟨g,0,none⟩)) (hy:a.eval y=.agg cells)
  (t:TypeId) (old:Array Value) (hg:w.heap[g]?=some (.cells old t (0,0))) (hi:(P.info? ty).map (·.size)=some cells.size)
  (hold:old.size=cells.size) (h1:cells.all (·.oneCell')=true)
  (h:K (a.put o.dst undef) (w.setRow g cells)):if Region.wanted o (yielded ops a.tmps)=true then Oper.wp P o a w K Q else E:=by
 rw[if_pos (by simp[Region.wanted,hgd])]
 exact wp_store_row ty x y ho g cells hx hy t old hg hi hold h1 h
theorem step_mapUpdate_own {H:Type} {P:Program} (w:World) {ops:Array Oper} {o:Oper} {a:Act} {K':Act→World→Prop} {Q:Exit→Act→World→Prop} {E:Prop}
  (hg:o.guard=none) (m x v:Operand) (t:TypeId) (hop:o.op=Op.mapUpdate t m x v)
  (k e:TypeId) (K:Keyed P k) (ht:P.underlying t=some (.map k e)) (R:Value→Option (DataW H×List MemPlace)) (b n:Nat) (D:DataW H)
  (hm:a.eval m=.map (some b)) (hown:w.ownsMap P k R b n D) (hn:n<maxLen) (key val:Value) (kl:Lit) (hx:a.eval x=key) (hv:a.eval v=val) (hkey:keyOf P k key=some kl)
  (d:DataW H) (ps:List MemPlace) (hval:R val=some (d,ps))
  (hK:∀ w',w'.ownsMap P k R b (n+1) (D.put kl d)→w.grownBy w' (some b)→K' (a.put o.dst undef) w'):if Region.wanted o (yielded ops a.tmps)=true then Oper.wp P o a w K' Q else E:=by
 rw[if_pos (by simp[Region.wanted,hg])]
 obtain⟨w',hrun,r1,r2⟩:=hown.update K ht hn hkey hval
 unfold Oper.wp
 simp[execOp,hop,hm,hx,hv,hrun,Result.andThen]
 exact hK w' r1 r2
theorem pl_one (x:Ob) (pl:Pl):(plCells x pl).all (·.oneCell')=true:=by simp[plCells,Value.oneCell']
abbrev lkMap (w:World) (b N:Nat) (D:DataW Unit):Prop:=w.ownsMap Tryz.prog 205 (plainElem Tryz.prog 3) b N D
theorem lkMap_kept {S:Nat→Prop} {w w':World} {b N:Nat} {D:DataW Unit} (h:lkMap w b N D) (hk:Kept S w w') (hb:S b):lkMap w' b N D:=by
 obtain⟨es,clock,hB,F,hs,hD⟩:=h
 exact⟨es,clock,(hk.block b hb).trans hB,F,hs,hD⟩
theorem lkMap_lt {w:World} {b N:Nat} {D:DataW Unit} (h:lkMap w b N D):b<w.heap.size:=World.ownsMap.lt h
theorem lkMap_below {w w':World} {b N:Nat} {D:DataW Unit} (h:lkMap w b N D) (hb:Below w.heap.size w w'):lkMap w' b N D:=
 lkMap_kept h ((Kept.refl (fun k=>k<w.heap.size) w).below hb fun k h=>h) (lkMap_lt h)
theorem in64_of {a:Int} (h0:-1000000≤a) (h1:a≤1000000):In64 a:=⟨by omega,by omega⟩
end Go.Proofs.YtceflhffilldeaaGreat
