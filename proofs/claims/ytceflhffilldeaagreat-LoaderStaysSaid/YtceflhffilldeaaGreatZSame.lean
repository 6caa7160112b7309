/-
  Joined: ZSame.
-/
import Derived.Test.YtceflhffilldeaaGreatZLdTop
set_option linter.unusedVariables false
set_option linter.unusedSimpArgs false
set_option maxRecDepth 100000
set_option maxHeartbeats 16000000
namespace Go.Proofs.YtceflhffilldeaaGreat
open Go.RowKit
theorem ret_b {a b:Bool} (h:a=b):Ending.returned (Value.bool a)=Ending.returned (Value.bool b):=by rw[h]
theorem list_ne_at {l m:List Int} {k:Nat} (hk:k<l.length) (hk':k<m.length) (h:l.getD k 0≠m.getD k 0):false=decide (l=m):=by
 rw[eq_comm,decide_eq_false_iff_not]
 rintro rfl
 exact h rfl
theorem list_eq_at {l m:List Int} (h:l.length=m.length) (hj:∀ j,j<l.length→l.getD j 0=m.getD j 0):true=decide (l=m):=by
 rw[eq_comm,decide_eq_true_eq]
 apply List.ext_getElem h
 intro i h1 h2
 have:=hj i h1
 simpa [List.getD,h1,h2] using this
theorem keep_words (v u:Value) (l m:List Int) (w:World) (hl:Row .u32 w v l) (hm:Row .u32 w u m) :
  Calls Tryz.prog 40 #[v,u] w fun e w'=>e=.returned (.bool (decide (l=m)))∧Kept (fun _=>True) w w':=by
 obtain⟨hl1,A,c,rfl,hc⟩:=hl
 obtain⟨hm1,B,d,rfl,hd⟩:=hm
 have hc:=zh hc
 have hd:=zh hd
 by_cases hn:l.length=m.length
 ·have hn':=zh hn
  have e1:((l.length:Int) != (m.length:Int))=false:=by rw[hn];simp
  clear hn
  go_enter Tryz.func40,Tryz.ntmps40
  go_wp2_with fail
  go_loopw [5] (fun i wr=>∃ k:Nat,i=.int .i64 k∧k≤l.length∧(∀ j,j<k→l.getD j 0=m.getD j 0)∧Kept (fun _=>True) w wr) (fun i _=>l.length-(intOf i).toNat)
  case atStart=>exact⟨0,rfl,by omega,fun j hj=>by omega,Kept.refl _ _⟩
  case round=>
   obtain⟨k,rfl,hk,hj,hw⟩:=hrel
   have hj:=zh hj
   have hw:=zh hw
   by_cases hlt:(k:Int)<(l.length:Int)
   ·obtain⟨ad,rfl,-,x1⟩:=hc.out k (by omega)
    obtain⟨bd,rfl,-,x2⟩:=hd.out k (by have:=hn'.out;omega)
    have x3:=hw.out.cell (p:=ad.add k) trivial
    have x4:=hw.out.cell (p:=bd.add k) trivial
    rw[x1] at x3
    rw[x2] at x4
    clear x1 x2
    have b2:(k:Int)<(m.length:Int):=by have:=hn'.out;omega
    have x3:wr.drew.cell? (ad.add k)=some (.int .u32 (l.getD k 0)):=x3
    have x4:wr.drew.cell? (bd.add k)=some (.int .u32 (m.getD k 0)):=x4
    have hK:=zh hw.out.drew
    by_cases heq:l.getD k 0=m.getD k 0
    ·have heq':=zh heq
     have e2:(l.getD k 0 != m.getD k 0)=false:=by rw[heq];simp
     clear heq
     generalize hla:l.getD k 0=la at *
     generalize hma:m.getD k 0=ma at *
     have hla:=zh hla
     have hma:=zh hma
     go_wp2_with fail
     refine region_drew 8 (by kernel_rfl) (by kernel_rfl) ?_
     simp only[List.take_succ_cons,List.take_zero,List.drop_succ_cons,List.drop_zero]
     repeat still_step
     refine wpStill_nil ?_
     generalize wr.drew=W at *
     go_wp2_with fail
     refine⟨⟨k+1,by go_num,by omega,fun j hj'=>?_,hK.out⟩,by simp[intOf];omega⟩
     rcases Nat.lt_or_ge j k with h | h
     ·exact hj.out j h
     ·obtain rfl:j=k:=by omega
      rw[hla.out,hma.out];exact heq'.out
    ·have heq':=zh heq
     have e2:(l.getD k 0 != m.getD k 0)=true:=by rw[bne_iff_ne];exact heq
     clear heq
     generalize hla:l.getD k 0=la at *
     generalize hma:m.getD k 0=ma at *
     have hla:=zh hla
     have hma:=zh hma
     go_wp2_with fail
     refine region_drew 8 (by kernel_rfl) (by kernel_rfl) ?_
     simp only[List.take_succ_cons,List.take_zero,List.drop_succ_cons,List.drop_zero]
     repeat still_step
     refine wpStill_nil ?_
     generalize wr.drew=W at *
     go_wp2_with fail
     go_ret
     exact⟨ret_b (list_ne_at (k:=k) (by omega) (by omega) (by rw[hla.out,hma.out];exact heq'.out)),hK.out⟩
   ·go_wp2_with fail
    go_ret
    exact⟨ret_b (list_eq_at hn'.out (fun j h=>hj.out j (by omega))),hw.out⟩
 ·go_enter Tryz.func40,Tryz.ntmps40
  have e1:((l.length:Int) != (m.length:Int))=true:=by rw[bne_iff_ne];omega
  have hn:=zh hn
  go_wp2_with fail
  go_ret
  exact⟨ret_b (by rw[eq_comm,decide_eq_false_iff_not];rintro rfl;exact hn.out rfl),Kept.refl _ _⟩
end Go.Proofs.YtceflhffilldeaaGreat
namespace Go.Proofs.YtceflhffilldeaaGreat
open Go.RowKit Go.Maps Go.WideMaps ObjL Ldr
theorem lwd_row {w:World} {g:Nat} {l:List Int} (h:LWd w g l) (hl:l.length≤65536):Row .u32 w (.slice (some ⟨g,0,none⟩) l.length l.length) l:=
 ⟨by omega,some ⟨g,0,none⟩,l.length,rfl,fun k hk=>⟨⟨g,0,none⟩,rfl,h.lt,by
  have:=h.cell k hk
  simpa [Addr.add_mid] using this⟩⟩
def SameS (g1 g2 gm gn k:Nat) (va vb:Value) (pl:Array Value) (w:World):Prop:=
 w.cell? ⟨g1,2,none⟩=some va∧w.cell? ⟨g2,2,none⟩=some vb∧w.rangeAt gm (k*6) pl.toList∧w.rangeAt gn (k*6) pl.toList
theorem ref26_same_none (w:World) :
  Calls Tryz.prog 21 #[.agg #[.slice none 0 0,.int .i64 0,.slice none 0 0],.agg #[.slice none 0 0,.int .i64 0,.slice none 0 0]] w fun e w'=>e=.returned (.bool true)∧Below w.heap.size w w':=by
 have BB:=zh (((Below.refl w.heap.size w).alloc (Nat.le_refl _) (.cells #[.slice none 0 0,.int .i64 0,.slice none 0 0] imT)).alloc (by simp) (.cells #[.slice none 0 0,.int .i64 0,.slice none 0 0] imT))
 have e1:(w.alloc (.cells #[.slice none 0 0,.int .i64 0,.slice none 0 0] imT)).heap.size=w.heap.size+1:=by simp
 have A1:=zh ((Blk.new w imT #[.slice none 0 0,.int .i64 0,.slice none 0 0]).alloc (.cells #[.slice none 0 0,.int .i64 0,.slice none 0 0] imT))
 have A2:=Blk.new (w.alloc (.cells #[.slice none 0 0,.int .i64 0,.slice none 0 0] imT)) imT #[.slice none 0 0,.int .i64 0,.slice none 0 0]
 rw[e1] at A2
 have A2:=zh A2
 clear e1
 go_enter Tryz.func21,Tryz.ntmps21
 go_upto_region 1 with fail
 generalize hW:(w.alloc (.cells #[.slice none 0 0,.int .i64 0,.slice none 0 0] imT)).alloc (.cells #[.slice none 0 0,.int .i64 0,.slice none 0 0] imT)=W at *
 clear hW
 have R0:Row .u32 W (.slice none 0 0) []:=⟨by simp,none,0,rfl,fun k hk=>absurd hk (by simp)⟩
 have KW:=keep_words _ _ [] [] W R0 R0
 rw[show decide (([]:List Int)=[])=true from rfl] at KW
 have KW:=zh KW
 have a0:W.cell? ⟨w.heap.size,0,none⟩=some (.slice none 0 0):=A1.out.cell 0
 have a1:W.cell? ⟨w.heap.size,1,none⟩=some (.int .i64 0):=A1.out.cell 1
 have b0:W.cell? ⟨w.heap.size+1,0,none⟩=some (.slice none 0 0):=A2.out.cell 0
 have b1:W.cell? ⟨w.heap.size+1,1,none⟩=some (.int .i64 0):=A2.out.cell 1
 clear R0
 go_wp2_with fail
 refine KW.out.mono ?_
 rintro e w1 ⟨rfl,hk⟩
 have a2:w1.cell? ⟨w.heap.size,2,none⟩=some (.slice none 0 0):=(hk.cell (p:=⟨w.heap.size,2,none⟩) trivial).trans (A1.out.cell 2)
 have b2:w1.cell? ⟨w.heap.size+1,2,none⟩=some (.slice none 0 0):=(hk.cell (p:=⟨w.heap.size+1,2,none⟩) trivial).trans (A2.out.cell 2)
 have hb:=hk.all_below (B:=W.heap.size)
 have B1:=zh (BB.out.trans (hb.mono BB.out.size))
 clear hk hb KW a0 a1 b0 b1
 go_wp2_with fail
 go_loopw [5] (fun iv wr=>iv=.int .i64 0∧wr=w1) (fun iv _=>0)
 case atStart=>exact⟨rfl,rfl⟩
 case round=>
  obtain⟨rfl,rfl⟩:=hrel
  go_wp2_with fail
  go_ret
  exact⟨rfl,B1.out⟩
theorem ref26_same (m:Im) (ws:List Int) (ga gm ca gb gn cb:Nat) (w:World) (h1:LWd w ga ws) (h2:MRow w gm m) (h3:LWd w gb ws) (h4:MRow w gn m) (hn:m.n≤16) (hl:ws.length≤65536) :
  Calls Tryz.prog 21 #[.agg (imCells ga gm ca m.n ws.length),.agg (imCells gb gn cb m.n ws.length)] w fun e w'=>e=.returned (.bool true)∧Below w.heap.size w w':=by
 unfold imCells
 have BB0:=((Below.refl w.heap.size w).alloc (Nat.le_refl _) (.cells #[.slice (some ⟨ga,0,none⟩) ws.length ws.length,.int .i64 8,.slice (some ⟨gm,0,none⟩) m.n ca] imT)).alloc (by simp) (.cells #[.slice (some ⟨gb,0,none⟩) ws.length ws.length,.int .i64 8,.slice (some ⟨gn,0,none⟩) m.n cb] imT)
 have h1:=zh (h1.below BB0)
 have h2:=zh (h2.below BB0)
 have h3:=zh (h3.below BB0)
 have h4:=zh (h4.below BB0)
 have BB:=zh BB0
 clear BB0
 have e1:(w.alloc (.cells #[.slice (some ⟨ga,0,none⟩) ws.length ws.length,.int .i64 8,.slice (some ⟨gm,0,none⟩) m.n ca] imT)).heap.size=w.heap.size+1:=by simp
 have A1:=zh ((Blk.new w imT #[.slice (some ⟨ga,0,none⟩) ws.length ws.length,.int .i64 8,.slice (some ⟨gm,0,none⟩) m.n ca]).alloc (.cells #[.slice (some ⟨gb,0,none⟩) ws.length ws.length,.int .i64 8,.slice (some ⟨gn,0,none⟩) m.n cb] imT))
 have A2:=Blk.new (w.alloc (.cells #[.slice (some ⟨ga,0,none⟩) ws.length ws.length,.int .i64 8,.slice (some ⟨gm,0,none⟩) m.n ca] imT)) imT #[.slice (some ⟨gb,0,none⟩) ws.length ws.length,.int .i64 8,.slice (some ⟨gn,0,none⟩) m.n cb]
 rw[e1] at A2
 have A2:=zh A2
 clear e1
 go_enter Tryz.func21,Tryz.ntmps21
 go_upto_region 1 with fail
 generalize hW:(w.alloc (.cells #[.slice (some ⟨ga,0,none⟩) ws.length ws.length,.int .i64 8,.slice (some ⟨gm,0,none⟩) m.n ca] imT)).alloc (.cells #[.slice (some ⟨gb,0,none⟩) ws.length ws.length,.int .i64 8,.slice (some ⟨gn,0,none⟩) m.n cb] imT)=W at *
 clear hW
 obtain⟨g2,hg2⟩:∃ g2,w.heap.size+1=g2:=⟨_,rfl⟩
 rw[hg2] at A2
 have KW:=keep_words _ _ ws ws W (lwd_row h1.out hl) (lwd_row h3.out hl)
 rw[show decide (ws=ws)=true from decide_eq_true rfl] at KW
 have KW:=zh KW
 have a0:W.cell? ⟨w.heap.size,0,none⟩=some (.slice (some ⟨ga,0,none⟩) ws.length ws.length):=A1.out.cell 0
 have a1:W.cell? ⟨w.heap.size,1,none⟩=some (.int .i64 8):=A1.out.cell 1
 have b0:W.cell? ⟨w.heap.size+1,0,none⟩=some (.slice (some ⟨gb,0,none⟩) ws.length ws.length):=by rw[hg2];exact A2.out.cell 0
 have b1:W.cell? ⟨w.heap.size+1,1,none⟩=some (.int .i64 8):=by rw[hg2];exact A2.out.cell 1
 have hg2h:=zh hg2
 clear hg2
 go_wp2_with fail
 refine KW.out.mono ?_
 rintro e w1 ⟨rfl,hk⟩
 have a2:w1.cell? ⟨w.heap.size,2,none⟩=some (.slice (some ⟨gm,0,none⟩) m.n ca):=(hk.cell (p:=⟨w.heap.size,2,none⟩) trivial).trans (A1.out.cell 2)
 have b2:w1.cell? ⟨w.heap.size+1,2,none⟩=some (.slice (some ⟨gn,0,none⟩) m.n cb):=by rw[hg2h.out];exact(hk.cell (p:=⟨g2,2,none⟩) trivial).trans (A2.out.cell 2)
 have hb:=hk.all_below (B:=W.heap.size)
 have A1:=zh (A1.out.below hb A1.out.lt)
 have A2:=zh (A2.out.below hb A2.out.lt)
 have h2:Hid (MRow w1 gm m):=zh (h2.out.below hb)
 have h4:Hid (MRow w1 gn m):=zh (h4.out.below hb)
 have BB:Hid (Below w.heap.size w w1):=zh (BB.out.trans (hb.mono BB.out.size))
 clear hk hb KW a0 a1 b0 b1
 go_wp2_with fail
 clear a2 b2
 go_loopw [5] (fun iv wr=>∃ k:Nat,iv=.int .i64 k∧k≤m.n∧Hid (Below w1.heap.size w1 wr)) (fun iv _=>16-(intOf iv).toNat)
 case atStart=>exact⟨0,rfl,by omega,zh (Below.refl _ _)⟩
 case round=>
  obtain⟨k,rfl,hk,hbw⟩:=hrel
  have a2:wr.cell? ⟨w.heap.size,2,none⟩=some (.slice (some ⟨gm,0,none⟩) m.n ca):=(A1.out.below hbw.out A1.out.lt).cell 2
  have b2:wr.cell? ⟨w.heap.size+1,2,none⟩=some (.slice (some ⟨gn,0,none⟩) m.n cb):=by rw[hg2h.out];exact(A2.out.below hbw.out A2.out.lt).cell 2
  by_cases hlt:(k:Int)<(m.n:Int)
  ·have hkm:k<m.n:=by omega
   have HS:Hid (∀ W',Below wr.heap.size wr W'→SameS w.heap.size (w.heap.size+1) gm gn k (.slice (some ⟨gm,0,none⟩) m.n ca) (.slice (some ⟨gn,0,none⟩) m.n cb) (plCells (m.ob k) (m.pl k)) W'):=zh (fun W' hb=>by
    have hb2:=hbw.out.trans (hb.mono hbw.out.size)
    exact⟨(A1.out.below hb2 A1.out.lt).cell 2,by rw[hg2h.out];exact(A2.out.below hb2 A2.out.lt).cell 2,(h2.out.below hb2).range hkm,(h4.out.below hb2).range hkm⟩)
   generalize m.ob k=x at *
   generalize m.pl k=pl at *
   clear hkm
   go_upto_region 6 with fail
   clear a2 b2
   go_cut [6,7] from 37 to 46 (fun ra rb wx=>∃ qo qp:Nat,ra=.pointer (some ⟨qo,0,none⟩)∧rb=.pointer (some ⟨qp,0,none⟩)∧Hid (Blk wx qo plT (plCells x pl)∧Blk wx qp plT (plCells x pl)∧Below wr.heap.size wr wx))
   case first=>
    refine wp_region_F (SameS w.heap.size (w.heap.size+1) gm gn k (.slice (some ⟨gm,0,none⟩) m.n ca) (.slice (some ⟨gn,0,none⟩) m.n cb) (plCells x pl)) 13 (by kernel_rfl) ?_
    have S0:=HS.out wr.drew (Below.refl wr.heap.size wr).drew
    refine hfTake 0 (v:=?_) ?_ S0 ?_
    rotate_left
    ·(intro _ h;obtain⟨_,_,_,_⟩:=h;go_simp<;>with_reducible rfl)
    try simp only[Act.put,sAp,sA0,sAs]
    refine hfTake 1 (v:=?_) ?_ S0 ?_
    rotate_left
    ·(intro _ h;obtain⟨_,_,_,_⟩:=h;go_simp<;>with_reducible rfl)
    try simp only[Act.put,sAp,sA0,sAs]
    refine hfTake 2 (v:=?_) ?_ S0 ?_
    rotate_left
    ·(intro _ h;obtain⟨_,_,_,_⟩:=h;go_simp<;>with_reducible rfl)
    try simp only[Act.put,sAp,sA0,sAs]
    refine hfTake 3 (v:=?_) ?_ S0 ?_
    rotate_left
    ·(intro _ h;obtain⟨_,_,_,_⟩:=h;go_simp<;>with_reducible rfl)
    try simp only[Act.put,sAp,sA0,sAs]
    refine wpAnyF_takeY 4 rfl (by kernel_rfl) (by kernel_rfl) (by kernel_rfl) (by kernel_rfl) (fun _ _ _ h=>h) (yieldsIf_load_mid rfl 39 (.tmp 40) rfl gm (k*6) rfl (plCells x pl).toList _ (fun wS hSw=>hSw.2.2.1) Tryz.underlying39 rfl (by kernel_rfl)) S0 ?_
    try simp only[Act.put,sAp,sA0,sAs]
    refine hfTake 5 (v:=?_) ?_ S0 ?_
    rotate_left
    ·(intro _ h;obtain⟨_,_,_,_⟩:=h;go_simp<;>with_reducible rfl)
    try simp only[Act.put,sAp,sA0,sAs]
    refine hfTake 6 (v:=?_) ?_ S0 ?_
    rotate_left
    ·(intro _ h;obtain⟨_,_,_,_⟩:=h;go_simp<;>with_reducible rfl)
    try simp only[Act.put,sAp,sA0,sAs]
    refine hfTake 7 (v:=?_) ?_ S0 ?_
    rotate_left
    ·(intro _ h;obtain⟨_,_,_,_⟩:=h;go_simp<;>with_reducible rfl)
    try simp only[Act.put,sAp,sA0,sAs]
    refine hfTake 8 (v:=?_) ?_ S0 ?_
    rotate_left
    ·(intro _ h;obtain⟨_,_,_,_⟩:=h;go_simp<;>with_reducible rfl)
    try simp only[Act.put,sAp,sA0,sAs]
    refine wpAnyF_takeY 9 rfl (by kernel_rfl) (by kernel_rfl) (by kernel_rfl) (by kernel_rfl) (fun _ _ _ h=>h) (yieldsIf_load_mid rfl 39 (.tmp 45) rfl gn (k*6) rfl (plCells x pl).toList _ (fun wS hSw=>hSw.2.2.2) Tryz.underlying39 rfl (by kernel_rfl)) S0 ?_
    try simp only[Act.put,sAp,sA0,sAs]
    refine wpAnyF_ready [10,11] (by kernel_rfl) (by simp) (ReadyF.consL rfl (fun K hK=>?_) (ReadyF.consL rfl (fun K hK=>?_) ReadyF.nil))
    ·go_simp
     have G1:=zh ((Below.refl wr.heap.size wr).alloc (Nat.le_refl _) (.cells #[.string ⟨#[]⟩,.int .u32 0,.int .i64 0,.int .i64 0,.int .i64 0,.int .i64 0] plT)).drew
     have N1:=zh (Blk.new wr plT #[.string ⟨#[]⟩,.int .u32 0,.int .i64 0,.int .i64 0,.int .i64 0,.int .i64 0]).drew
     refine hK.out _ _ (fun _=>HS.out _ G1.out) ?_
     clear hK K S0
     try simp only[Act.put,sAp,sA0,sAs]
     try rw[show wr.drew.heap.size=wr.heap.size from rfl]
     obtain⟨qo,e1⟩:∃ qo,qo=wr.heap.size:=⟨_,rfl⟩
     have L1:=zh (show qo<(wr.alloc (.cells #[.string ⟨#[]⟩,.int .u32 0,.int .i64 0,.int .i64 0,.int .i64 0,.int .i64 0] plT)).drew.heap.size by rw[e1];exact N1.out.lt)
     have U1:=zh (show wr.heap.size≤qo by rw[e1];exact Nat.le_refl _)
     rw[← e1] at N1 ⊢
     clear e1
     generalize (wr.alloc (.cells #[.string ⟨#[]⟩,.int .u32 0,.int .i64 0,.int .i64 0,.int .i64 0,.int .i64 0] plT)).drew=v1 at *
     refine hfRdy 11 (by kernel_rfl) rfl fun K hK=>?_
     go_simp
     have G2:=zh (G1.out.alloc G1.out.size (.cells #[.string ⟨#[]⟩,.int .u32 0,.int .i64 0,.int .i64 0,.int .i64 0,.int .i64 0] plT))
     have N2:=zh (N1.out.alloc (.cells #[.string ⟨#[]⟩,.int .u32 0,.int .i64 0,.int .i64 0,.int .i64 0,.int .i64 0] plT))
     have M2:=zh (Blk.new v1 plT #[.string ⟨#[]⟩,.int .u32 0,.int .i64 0,.int .i64 0,.int .i64 0,.int .i64 0])
     have hne:=zh (show qo≠v1.heap.size from Nat.ne_of_lt L1.out)
     have U2:=zh (show wr.heap.size≤v1.heap.size from G1.out.size)
     refine hK.out _ _ (fun _=>HS.out _ G2.out) ?_
     clear hK K N1 L1 G1
     try simp only[Act.put,sAp,sA0,sAs]
     generalize v1.heap.size=qp at *
     generalize v1.alloc (.cells #[.string ⟨#[]⟩,.int .u32 0,.int .i64 0,.int .i64 0,.int .i64 0,.int .i64 0] plT)=v2 at *
     have Bo:Hid (Blk v2 qo plT #[.string ⟨#[]⟩,.int .u32 0,.int .i64 0,.int .i64 0,.int .i64 0,.int .i64 0]):=N2
     have Bp:Hid (Blk v2 qp plT #[.string ⟨#[]⟩,.int .u32 0,.int .i64 0,.int .i64 0,.int .i64 0,.int .i64 0]):=M2
     have Hne:Hid (qo≠qp):=hne
     have Uo:Hid (wr.heap.size≤qo):=U1
     have Up:Hid (wr.heap.size≤qp):=U2
     clear N2 M2 hne U1 U2
     refine hfRdy 12 (by kernel_rfl) rfl fun K hK=>?_
     refine step_store_row rfl plT (.tmp 6) (.tmp 41) rfl qo (plCells x pl) rfl rfl plT #[.string ⟨#[]⟩,.int .u32 0,.int .i64 0,.int .i64 0,.int .i64 0,.int .i64 0] Bo.out (by kernel_rfl) rfl (pl_one x pl) ?_
     have G3:=zh (below_setRow G2.out Uo.out (plCells x pl))
     have Co:=zh (show Blk (v2.setRow qo (plCells x pl)) qo plT (plCells x pl) from setRow_heap _ _ _ _ _ _ Bo.out)
     have Cp:=zh (show Blk (v2.setRow qo (plCells x pl)) qp plT #[.string ⟨#[]⟩,.int .u32 0,.int .i64 0,.int .i64 0,.int .i64 0,.int .i64 0] from (setRow_other _ _ _ _ (Ne.symm Hne.out)).trans Bp.out)
     refine hK.out _ _ (fun _=>HS.out _ G3.out) ?_
     clear hK K G2 Bo Bp
     try simp only[Act.put,sAp,sA0,sAs]
     generalize v2.setRow qo (plCells x pl)=v3 at *
     refine hfRdy 13 (by kernel_rfl) rfl fun K hK=>?_
     refine step_store_row rfl plT (.tmp 7) (.tmp 46) rfl qp (plCells x pl) rfl rfl plT #[.string ⟨#[]⟩,.int .u32 0,.int .i64 0,.int .i64 0,.int .i64 0,.int .i64 0] Cp.out (by kernel_rfl) rfl (pl_one x pl) ?_
     have G4:=zh (below_setRow G3.out Up.out (plCells x pl))
     have Dp:=zh (show Blk (v3.setRow qp (plCells x pl)) qp plT (plCells x pl) from setRow_heap _ _ _ _ _ _ Cp.out)
     have Do:=zh (show Blk (v3.setRow qp (plCells x pl)) qo plT (plCells x pl) from (setRow_other _ _ _ _ Hne.out).trans Co.out)
     refine hK.out _ _ (fun h=>absurd rfl h) ?_
     clear hK K G3 Co Cp
     try simp only[Act.put,sAp,sA0,sAs]
     generalize v3.setRow qp (plCells x pl)=v4 at *
     refine wpAnyF_done (by kernel_rfl) ?_ _
     go_wp2_with fail
     go_meet
     exact⟨qo,qp,rfl,rfl,zh ⟨Do.out,Dp.out,G4.out⟩⟩
    ·go_simp
     have G1:=zh ((Below.refl wr.heap.size wr).alloc (Nat.le_refl _) (.cells #[.string ⟨#[]⟩,.int .u32 0,.int .i64 0,.int .i64 0,.int .i64 0,.int .i64 0] plT)).drew
     have N1:=zh (Blk.new wr plT #[.string ⟨#[]⟩,.int .u32 0,.int .i64 0,.int .i64 0,.int .i64 0,.int .i64 0]).drew
     refine hK.out _ _ (fun _=>HS.out _ G1.out) ?_
     clear hK K S0
     try simp only[Act.put,sAp,sA0,sAs]
     try rw[show wr.drew.heap.size=wr.heap.size from rfl]
     obtain⟨qp,e1⟩:∃ qp,qp=wr.heap.size:=⟨_,rfl⟩
     have L1:=zh (show qp<(wr.alloc (.cells #[.string ⟨#[]⟩,.int .u32 0,.int .i64 0,.int .i64 0,.int .i64 0,.int .i64 0] plT)).drew.heap.size by rw[e1];exact N1.out.lt)
     have U1:=zh (show wr.heap.size≤qp by rw[e1];exact Nat.le_refl _)
     rw[← e1] at N1 ⊢
     clear e1
     generalize (wr.alloc (.cells #[.string ⟨#[]⟩,.int .u32 0,.int .i64 0,.int .i64 0,.int .i64 0,.int .i64 0] plT)).drew=v1 at *
     refine hfRdy 10 (by kernel_rfl) rfl fun K hK=>?_
     go_simp
     have G2:=zh (G1.out.alloc G1.out.size (.cells #[.string ⟨#[]⟩,.int .u32 0,.int .i64 0,.int .i64 0,.int .i64 0,.int .i64 0] plT))
     have N2:=zh (N1.out.alloc (.cells #[.string ⟨#[]⟩,.int .u32 0,.int .i64 0,.int .i64 0,.int .i64 0,.int .i64 0] plT))
     have M2:=zh (Blk.new v1 plT #[.string ⟨#[]⟩,.int .u32 0,.int .i64 0,.int .i64 0,.int .i64 0,.int .i64 0])
     have hne:=zh (show qp≠v1.heap.size from Nat.ne_of_lt L1.out)
     have U2:=zh (show wr.heap.size≤v1.heap.size from G1.out.size)
     refine hK.out _ _ (fun _=>HS.out _ G2.out) ?_
     clear hK K N1 L1 G1
     try simp only[Act.put,sAp,sA0,sAs]
     generalize v1.heap.size=qo at *
     generalize v1.alloc (.cells #[.string ⟨#[]⟩,.int .u32 0,.int .i64 0,.int .i64 0,.int .i64 0,.int .i64 0] plT)=v2 at *
     have Bo:Hid (Blk v2 qo plT #[.string ⟨#[]⟩,.int .u32 0,.int .i64 0,.int .i64 0,.int .i64 0,.int .i64 0]):=M2
     have Bp:Hid (Blk v2 qp plT #[.string ⟨#[]⟩,.int .u32 0,.int .i64 0,.int .i64 0,.int .i64 0,.int .i64 0]):=N2
     have Hne:Hid (qo≠qp):=zh (Ne.symm hne.out)
     have Uo:Hid (wr.heap.size≤qo):=U2
     have Up:Hid (wr.heap.size≤qp):=U1
     clear N2 M2 hne U1 U2
     refine hfRdy 12 (by kernel_rfl) rfl fun K hK=>?_
     refine step_store_row rfl plT (.tmp 6) (.tmp 41) rfl qo (plCells x pl) rfl rfl plT #[.string ⟨#[]⟩,.int .u32 0,.int .i64 0,.int .i64 0,.int .i64 0,.int .i64 0] Bo.out (by kernel_rfl) rfl (pl_one x pl) ?_
     have G3:=zh (below_setRow G2.out Uo.out (plCells x pl))
     have Co:=zh (show Blk (v2.setRow qo (plCells x pl)) qo plT (plCells x pl) from setRow_heap _ _ _ _ _ _ Bo.out)
     have Cp:=zh (show Blk (v2.setRow qo (plCells x pl)) qp plT #[.string ⟨#[]⟩,.int .u32 0,.int .i64 0,.int .i64 0,.int .i64 0,.int .i64 0] from (setRow_other _ _ _ _ (Ne.symm Hne.out)).trans Bp.out)
     refine hK.out _ _ (fun _=>HS.out _ G3.out) ?_
     clear hK K G2 Bo Bp
     try simp only[Act.put,sAp,sA0,sAs]
     generalize v2.setRow qo (plCells x pl)=v3 at *
     refine hfRdy 13 (by kernel_rfl) rfl fun K hK=>?_
     refine step_store_row rfl plT (.tmp 7) (.tmp 46) rfl qp (plCells x pl) rfl rfl plT #[.string ⟨#[]⟩,.int .u32 0,.int .i64 0,.int .i64 0,.int .i64 0,.int .i64 0] Cp.out (by kernel_rfl) rfl (pl_one x pl) ?_
     have G4:=zh (below_setRow G3.out Up.out (plCells x pl))
     have Dp:=zh (show Blk (v3.setRow qp (plCells x pl)) qp plT (plCells x pl) from setRow_heap _ _ _ _ _ _ Cp.out)
     have Do:=zh (show Blk (v3.setRow qp (plCells x pl)) qo plT (plCells x pl) from (setRow_other _ _ _ _ Hne.out).trans Co.out)
     refine hK.out _ _ (fun h=>absurd rfl h) ?_
     clear hK K G3 Co Cp
     try simp only[Act.put,sAp,sA0,sAs]
     generalize v3.setRow qp (plCells x pl)=v4 at *
     refine wpAnyF_done (by kernel_rfl) ?_ _
     go_wp2_with fail
     go_meet
     exact⟨qo,qp,rfl,rfl,zh ⟨Do.out,Dp.out,G4.out⟩⟩
   case rest=>
    obtain⟨qo,qp,rfl,rfl,hC⟩:=hcut
    obtain⟨Co,Cp,hb1⟩:=hC.out
    clear hC HS
    have y0:=Co.cell 0
    have z0:=Cp.cell 0
    have y1:=Co.cell 1
    have z1:=Cp.cell 1
    have y2:=Co.cell 2
    have z2:=Cp.cell 2
    have y3:=Co.cell 3
    have z3:=Cp.cell 3
    have y4:=Co.cell 4
    have z4:=Cp.cell 4
    have y5:=Co.cell 5
    have z5:=Cp.cell 5
    simp only[plCells,gAr,gC0,gCs] at y0 z0 y1 z1 y2 z2 y3 z3 y4 z4 y5 z5
    have hbn:=zh (hbw.out.trans (hb1.mono hbw.out.size))
    clear Co Cp hb1
    generalize x.name=xn at *
    go_wp2_with fail
    exact⟨⟨k+1,by go_num,by omega,hbn⟩,by simp[intOf];omega⟩
  ·obtain rfl:k=m.n:=by omega
   go_wp2_with fail
   go_ret
   exact⟨rfl,(BB.out.trans (hbw.out.mono BB.out.size))⟩
end Go.Proofs.YtceflhffilldeaaGreat
