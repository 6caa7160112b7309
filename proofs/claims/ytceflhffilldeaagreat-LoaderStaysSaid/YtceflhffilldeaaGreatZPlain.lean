/-
  Joined: ZPlain.
-/
import Derived.Test.YtceflhffilldeaaGreatZEncD
import Derived.Test.YtceflhffilldeaaGreatZLdTop
import Derived.Tactics
set_option linter.unusedVariables false
set_option linter.unusedSimpArgs false
set_option maxRecDepth 100000
set_option maxHeartbeats 16000000
namespace Go.Proofs.YtceflhffilldeaaGreat
open Go.RowKit ObjL
def plainOb:Ob:=⟨[65],1,[],[],0,[],[3338665999],[0],-1,-1⟩
theorem plain_good:goodO plainOb=true:=by decide
theorem plain_len:(encO plainOb).length=24:=by decide
end Go.Proofs.YtceflhffilldeaaGreat
namespace Go.Proofs.YtceflhffilldeaaGreat
open Go.RowKit ObjL
theorem row_one {k:IntKind} {w:World} {g:Nat} {t:TypeId} {x:Int} (h:Blk w g t #[.int k x]):Row k w (.slice (some ⟨g,0,none⟩) 1 1) [x]:=
 ⟨by simp,some ⟨g,0,none⟩,1,rfl,fun i hi=>⟨⟨g,0,none⟩,rfl,h.lt,by
  have:i=0:=by simp at hi;omega
  subst this
  exact h.cell 0⟩⟩
theorem law23_plain (w:World) :
  Calls Tryz.prog 13 #[] w fun e w'=>∃ vC vE,e=.returned (.agg (obCells plainOb nilS nilS vC vE))∧ObParts w' plainOb nilS nilS vC vE∧Below w.heap.size w w':=by
 have ZB:=zh (Blk.new w 48 #[.string ⟨#[]⟩,.int .u32 0,.slice none 0 0,.slice none 0 0,.int .i64 0,.string ⟨#[]⟩,.slice none 0 0,.slice none 0 0,.int .i64 0,.int .i64 0])
 have BZ:=zh ((Below.refl w.heap.size w).alloc (Nat.le_refl _) (.cells #[.string ⟨#[]⟩,.int .u32 0,.slice none 0 0,.slice none 0 0,.int .i64 0,.string ⟨#[]⟩,.slice none 0 0,.slice none 0 0,.int .i64 0,.int .i64 0] 48))
 have hs0:(w.alloc (.cells #[.string ⟨#[]⟩,.int .u32 0,.slice none 0 0,.slice none 0 0,.int .i64 0,.string ⟨#[]⟩,.slice none 0 0,.slice none 0 0,.int .i64 0,.int .i64 0] 48)).heap.size=w.heap.size+1:=by simp
 go_enter Tryz.func13,Tryz.ntmps13
 go_upto_region 1 with fail
 generalize w.alloc (.cells #[.string ⟨#[]⟩,.int .u32 0,.slice none 0 0,.slice none 0 0,.int .i64 0,.string ⟨#[]⟩,.slice none 0 0,.slice none 0 0,.int .i64 0,.int .i64 0] 48)=w0 at *
 have Z1:=ZB.out.alloc (.cells #[.int .u32 3338665999] 37)
 have C1:=Blk.new w0 37 #[.int .u32 3338665999]
 rw[hs0] at C1
 have hz1:w.heap.size≤w0.heap.size:=BZ.out.size
 have X1:=BZ.out.alloc hz1 (.cells #[.int .u32 3338665999] 37)
 have hs1:(w0.alloc (.cells #[.int .u32 3338665999] 37)).heap.size=w.heap.size+2:=by simp[hs0]
 have Z1:=zh Z1
 have C1:=zh C1
 have X1:=zh X1
 refine wp_region_lit ?_
 refine wpList_plain rfl (fun K6 hK6=>?_)
 go_simp
 refine hK6 _ _ ?_
 clear hK6 K6
 try rw[hs0]
 generalize w0.alloc (.cells #[.int .u32 3338665999] 37)=w1 at *
 have Z2:=zh (Z1.out.alloc (.cells #[.int .i64 0] 3))
 have C2:=zh (C1.out.alloc (.cells #[.int .i64 0] 3))
 have E2:=Blk.new w1 3 #[.int .i64 0]
 rw[hs1] at E2
 have E2:=zh E2
 have X2:=zh (X1.out.alloc (by omega) (.cells #[.int .i64 0] 3))
 refine wpList_plain rfl (fun K6 hK6=>?_)
 go_simp
 refine hK6 _ _ ?_
 clear hK6 K6
 try rw[hs1]
 generalize w1.alloc (.cells #[.int .i64 0] 3)=w2 at *
 refine wpList_build rfl 48 _ rfl (by kernel_rfl) ?_
 refine wpList_store_row rfl 48 (.tmp 0) (.tmp 3) rfl w.heap.size #[.string (txt [65]),.int .u32 1,.slice none 0 0,.slice none 0 0,.int .i64 0,.string (txt []),.slice (some ⟨w.heap.size+1,0,none⟩) 1 1,.slice (some ⟨w.heap.size+2,0,none⟩) 1 1,.int .i64 (-1),.int .i64 (-1)] rfl (by kernel_rfl) 48 _ Z2.out (by kernel_rfl) rfl (by kernel_rfl) ?_
 try simp only[Act.put,sAp,sA0,sAs]
 have hb:=zh (below_setRow X2.out (Nat.le_refl _) #[.string (txt [65]),.int .u32 1,.slice none 0 0,.slice none 0 0,.int .i64 0,.string (txt []),.slice (some ⟨w.heap.size+1,0,none⟩) 1 1,.slice (some ⟨w.heap.size+2,0,none⟩) 1 1,.int .i64 (-1),.int .i64 (-1)])
 have hg:=setRow_heap _ w.heap.size _ #[.string (txt [65]),.int .u32 1,.slice none 0 0,.slice none 0 0,.int .i64 0,.string (txt []),.slice (some ⟨w.heap.size+1,0,none⟩) 1 1,.slice (some ⟨w.heap.size+2,0,none⟩) 1 1,.int .i64 (-1),.int .i64 (-1)] 48 (0,0) Z2.out
 have KS:=(KeepB.refl (fun t=>t==48) w2).setRow_ Z2.out (by decide) #[.string (txt [65]),.int .u32 1,.slice none 0 0,.slice none 0 0,.int .i64 0,.string (txt []),.slice (some ⟨w.heap.size+1,0,none⟩) 1 1,.slice (some ⟨w.heap.size+2,0,none⟩) 1 1,.int .i64 (-1),.int .i64 (-1)]
 have hP:=zh (show ObParts (w2.setRow w.heap.size #[.string (txt [65]),.int .u32 1,.slice none 0 0,.slice none 0 0,.int .i64 0,.string (txt []),.slice (some ⟨w.heap.size+1,0,none⟩) 1 1,.slice (some ⟨w.heap.size+2,0,none⟩) 1 1,.int .i64 (-1),.int .i64 (-1)]) plainOb nilS nilS (.slice (some ⟨w.heap.size+1,0,none⟩) 1 1) (.slice (some ⟨w.heap.size+2,0,none⟩) 1 1) from
  ⟨RowOf.nil_,RowOf.nil_,row_one (C2.out.keepB KS (by decide)),row_one (E2.out.keepB KS (by decide))⟩)
 clear KS
 generalize World.setRow _ _ _=Wz at *
 have hl:=run_loadVar_row Wz w.heap.size 48 48 _ (0,0) _ hg Tryz.underlying48 rfl (by kernel_rfl)
 have hl:=zh hl
 clear hg
 go_wp2_with fail
 have hl:=hl.out
 refine bodyPost_ret (v:=.agg #[.string (txt [65]),.int .u32 1,.slice none 0 0,.slice none 0 0,.int .i64 0,.string (txt []),.slice (some ⟨w.heap.size+1,0,none⟩) 1 1,.slice (some ⟨w.heap.size+2,0,none⟩) 1 1,.int .i64 (-1),.int .i64 (-1)]) ?_ rfl ⟨_,_,rfl,hP.out,hb.out⟩
 simp only[results,Tryz.results13]
 simp[hl,asAddr,obCells]
 try rfl
theorem enc_plain:encRes true plainOb=.tuple #[.string (txt (encO plainOb)),.int .i64 0]:=by
 unfold encRes
 rw[if_pos rfl,if_neg (by rw[plain_len];decide)]
theorem dec_plain:decO (encO plainOb)=some plainOb:=decO_enc plain_good (by rw[plain_len];decide)
theorem plain_fine:ObFine plainOb:=⟨by decide,by decide,by simp[plainOb],by simp[plainOb],by simp[plainOb,I64],by decide,by simp[plainOb],by simp[plainOb,I64],by simp[plainOb,I64],by simp[plainOb,I64]⟩
end Go.Proofs.YtceflhffilldeaaGreat
