/-
  Joined: ZTkB.
-/
import Derived.Test.YtceflhffilldeaaGreatZTkA
set_option linter.unusedVariables false
set_option linter.unusedSimpArgs false
set_option maxRecDepth 100000
set_option maxHeartbeats 16000000
namespace Go.Proofs.YtceflhffilldeaaGreat
open Go.RowKit ObjL
theorem tk_used_info:(Tryz.prog.info? 54).map (fun i=>(i.zero,i.size,i.bytes))=some (some (.agg #[.string ⟨#[]⟩,.int .u32 0]),2,24):=by kernel_rfl
theorem tk_ext_info:(Tryz.prog.info? 93).map (fun i=>(i.zero,i.size,i.bytes))=some (some (.agg #[.int .i64 0,.int .i64 0]),2,16):=by kernel_rfl
theorem tk_desc_info:(Tryz.prog.info? 84).map (fun i=>(i.zero,i.size,i.bytes))=some (some (.agg #[.int .i64 0,.slice none 0 0]),2,32):=by kernel_rfl
theorem tk_news2 (W:World) (x y:Value) (t:TypeId):∀ (j:Nat) (u:Value),[x,y][j]?=some u→(W.alloc (.cells #[x,y] t)).cell? ((⟨W.heap.size,0,none⟩:Addr).add j)=some u:=fun j u hu=>by
 have hb:=Blk.new W t #[x,y]
 match j,hu with
 | 0,hu=>simp at hu;subst hu;exact hb.cell 0
 | 1,hu=>simp at hu;subst hu;exact hb.cell 1
 | j+2,hu=>simp at hu
theorem tkBad_of {t0 t:TypeId} (h0:tkBad t0=true) (h:tkBad t=false):(t==t0)=false:=by
 cases hh:t==t0
 ·rfl
 ·rw[beq_iff_eq.1 hh,h0] at h
  cases h
theorem KeepB.tk {a b:World} {t0:TypeId} (h:KeepB (fun t=>t==t0) a b) (h0:tkBad t0=true):KeepB tkBad a b:=h.mono fun t ht=>tkBad_of h0 ht
theorem RdIs.keepB {bad:TypeId→Bool} {w w':World} {p:Nat} {s:List UInt8} {st:Lft} (h:RdIs rdT w p s st) (hk:KeepB bad w w') (hb:bad rdT=false):RdIs rdT w' p s st:=by
 obtain⟨a,bd,q1,q2,q3⟩:=h
 exact⟨a,bd,q1.keepB hk hb,q2,q3⟩
theorem flat_snoc {α:Type} (f:α→List Value) (l:List α) (x:α):(l++[x]).flatMap f=l.flatMap f++f x:=by simp
theorem KeepB.rdk {w w':World} {p:Nat} {s:List UInt8} {st:Lft} (hr:RdIs rdT w p s st) (hk:RdK p w w'):KeepB (fun t=>t==rdT) w w':=KeepB.rd hr hk (by decide)
theorem tk_uses1 (B tb tk p:Nat) (s r nm ss:List UInt8) (key da ca pl:Int) (us:List (List UInt8×Int)) (ds:List DV) (co en:List Int) (vU vD vC vE:Value) (w:World)
  (hbx:Blk w tb 189 #[.pointer (some ⟨tk,0,none⟩)]) (hbk:Blk w tk 193 (tkCells p nm key vU vD da ss vC vE ca pl)) (hrd:RdIs rdT w p s (some r)) (hrows:TkRows B w us ds co en vU vD vC vE)
  (hB:B≤tk∧B≤p) (hs:s.length≤1000000) (hn:us.length≤2147483647) :
  Calls Tryz.prog 136 #[.pointer (some ⟨tb,0,none⟩)] w fun e w'=>e=.returned (.tuple #[])∧∃ x st' v',Took rUse (some r) x st'∧(tOk s x.1∧wOk x.2)∧RdIs rdT w' p s st'∧Blk w' tk 193 (tkCells p nm key v' vD da ss vC vE ca pl)∧TkRows B w' (us++[x]) ds co en v' vD vC vE∧KeepB tkBad w w'∧Below B w w':=by
 have RDT:=zh (rd_text p s (some r) w hrd hs)
 have hrdH:=zh hrd
 have hbxH:=zh hbx
 have hbkH:=zh hbk
 have hrowsH:=zh hrows
 have hpl:=hrd.lt
 have hBs:B≤w.heap.size:=by omega
 have c0:w.cell? ⟨tb,0,none⟩=some (.pointer (some ⟨tk,0,none⟩)):=hbx.cell 0
 have d0:w.cell? ⟨tk,0,none⟩=some (.pointer (some ⟨p,0,none⟩)):=hbk.cell 0
 clear hbx hbk hrd hrows
 go_enter Tryz.func136,Tryz.ntmps136
 go_wp2_with fail
 refine RDT.out.mono ?_
 rintro e w1 ⟨t,st1,rfl,h1,h2,h3,h4⟩
 have KB1:=KeepB.rdk hrdH.out h3
 have KT1:=KB1.tk (by decide)
 have hbx1:=hbxH.out.keepB KB1 (by decide)
 have hbk1:=hbkH.out.keepB KB1 (by decide)
 have hrows1:=hrowsH.out.keepB KB1 ⟨by decide,by decide,by decide,by decide,by decide⟩
 have BB1:Below B w w1:=h3.to_below hB.2 hpl
 have hBs1:B≤w1.heap.size:=Nat.le_trans hBs BB1.size
 have hbxA:=zh (hbx1.alloc (.cells #[.string (txt t),.int .u32 0] 54))
 have hbkA:=zh (hbk1.alloc (.cells #[.string (txt t),.int .u32 0] 54))
 have hqA:=zh (Blk.new w1 54 #[.string (txt t),.int .u32 0])
 have hrowsA:=zh (hrows1.keepB ((KeepB.refl rdBad w1).alloc (.cells #[.string (txt t),.int .u32 0] 54)) ⟨by decide,by decide,by decide,by decide,by decide⟩)
 have KTA:=zh (KT1.alloc (.cells #[.string (txt t),.int .u32 0] 54))
 have BBA:=zh (BB1.alloc hBs1 (.cells #[.string (txt t),.int .u32 0] 54))
 have hRA:=zh (h2.below ((Below.refl w1.heap.size w1).alloc (Nat.le_refl _) (.cells #[.string (txt t),.int .u32 0] 54)))
 have h1:=zh h1
 have h4:=zh h4
 have hqB:Hid (B≤w1.heap.size):=zh hBs1
 have hneU:vU.ownBlock≠some w1.heap.size:=fun h=>by have:=(hrows1.uses.lt _ h).2;omega
 have hneU:=zh hneU
 clear KB1 KT1 hbx1 hbk1 hrows1 BB1 hBs1 h2 h3 RDT c0 d0
 unfold tVal
 go_upto_region 1 with fail
 generalize hub:w1.heap.size=ub at *
 generalize w1.alloc (.cells #[.string (txt t),.int .u32 0] 54)=wa at *
 clear hub
 have hplA:=hRA.out.lt
 have hBsA:=Nat.le_trans hBs BBA.out.size
 have RDW:=zh (rd_word p s st1 wa hRA.out hs)
 have c0:wa.cell? ⟨tb,0,none⟩=some (.pointer (some ⟨tk,0,none⟩)):=hbxA.out.cell 0
 have d0:wa.cell? ⟨tk,0,none⟩=some (.pointer (some ⟨p,0,none⟩)):=hbkA.out.cell 0
 go_wp2_with fail
 refine RDW.out.mono ?_
 rintro e wb ⟨x,st',rfl,y1,y2,y3,y4⟩
 have KB2:=KeepB.rdk hRA.out y3
 have hbx1:=hbxA.out.keepB KB2 (by decide)
 have hbk1:=hbkA.out.keepB KB2 (by decide)
 have hq1:=hqA.out.keepB KB2 (by decide)
 have hrows1:=hrowsA.out.keepB KB2 ⟨by decide,by decide,by decide,by decide,by decide⟩
 have KT1:=KTA.out.trans (KB2.tk (by decide))
 have BB1:Below B w wb:=BBA.out.trans (y3.to_below hB.2 hplA)
 have u1:wb.cell? ⟨ub,1,none⟩=some (.int .u32 0):=hq1.cell 1
 have fu:wb.frozen? ⟨ub,1,none⟩=false:=hq1.frozen 1
 have KS:=(KeepB.refl (fun t=>t==54) wb).setCell hq1 (i:=1) (by decide) (.int .u32 x)
 have hrows3:TkRows B (wb.setCell ⟨ub,1,none⟩ (.int .u32 x)) us ds co en vU vD vC vE:=⟨ownsRow_setCell_other hrows1.uses hneU.out _,row_keepB hrows1.descs KS (by decide),fun d hd=>(hrows1.exts d hd).keepB KS (by decide),row_keepB hrows1.code KS (by decide),row_keepB hrows1.entries KS (by decide)⟩
 clear hbxA hbkA hrowsA KTA BBA hRA RDW c0 d0 hBsA hplA hqA
 have hbxA:=zh (hbx1.keepB KS (by decide))
 have hbkA:=zh (hbk1.keepB KS (by decide))
 have hqA:=zh (hq1.set_ 1 (.int .u32 x))
 have hrowsA:=zh hrows3
 have KTA:=zh (KT1.setCell hq1 (i:=1) (by decide) (.int .u32 x))
 have BBA:=zh (BB1.setCell (p:=⟨ub,1,none⟩) hqB.out (.int .u32 x))
 have hRA:=zh (y2.keepB KS (by decide))
 have y1:=zh y1
 have y4:=zh y4
 clear hbx1 hbk1 hq1 hrows1 hrows3 KT1 BB1 KB2 KS y2 y3
 go_upto_region 2 with fail
 generalize wb.setCell ⟨ub,1,none⟩ (.int .u32 x)=wA at *
 have hqA:Hid (Blk wA ub 54 #[.string (txt t),.int .u32 x]):=hqA
 have hBsA:=Nat.le_trans hBs BBA.out.size
 have S0:wA.drew.cell? ⟨tb,0,none⟩=some (.pointer (some ⟨tk,0,none⟩))∧wA.drew.cell? ⟨tk,3,none⟩=some vU∧wA.drew.cell? ⟨ub,0,none⟩=some (.string (txt t))∧wA.drew.cell? ⟨ub,1,none⟩=some (.int .u32 x):=⟨hbxA.out.cell 0,hbkA.out.cell 3,hqA.out.cell 0,hqA.out.cell 1⟩
 obtain⟨i0,hi0,hz0,hz1,hz2⟩:=info_parts tk_used_info
 refine wp_region_F (fun w'=>w'.cell? ⟨tb,0,none⟩=some (.pointer (some ⟨tk,0,none⟩))∧w'.cell? ⟨tk,3,none⟩=some vU∧w'.cell? ⟨ub,0,none⟩=some (.string (txt t))∧w'.cell? ⟨ub,1,none⟩=some (.int .u32 x)) 12 (by kernel_rfl) ?_
 refine hfTake 0 (v:=?_) ?_ (by assumption) ?_
 rotate_left
 ·(intro _ h;obtain⟨_,_,_,_⟩:=h;go_simp<;>with_reducible rfl)
 try simp only[Act.put,sAp,sA0,sAs]
 refine hfTake 1 (v:=?_) ?_ (by assumption) ?_
 rotate_left
 ·(intro _ h;obtain⟨_,_,_,_⟩:=h;go_simp<;>with_reducible rfl)
 try simp only[Act.put,sAp,sA0,sAs]
 refine hfTake 2 (v:=?_) ?_ (by assumption) ?_
 rotate_left
 ·(intro _ h;obtain⟨_,_,_,_⟩:=h;go_simp<;>with_reducible rfl)
 try simp only[Act.put,sAp,sA0,sAs]
 refine hfTake 3 (v:=?_) ?_ (by assumption) ?_
 rotate_left
 ·(intro _ h;obtain⟨_,_,_,_⟩:=h;go_simp<;>with_reducible rfl)
 try simp only[Act.put,sAp,sA0,sAs]
 refine hfTake 4 (v:=?_) ?_ (by assumption) ?_
 rotate_left
 ·(intro _ h;obtain⟨_,_,_,_⟩:=h;go_simp<;>with_reducible rfl)
 try simp only[Act.put,sAp,sA0,sAs]
 refine hfTake 5 (v:=?_) ?_ (by assumption) ?_
 rotate_left
 ·(intro _ h;obtain⟨_,_,_,_⟩:=h;go_simp<;>with_reducible rfl)
 try simp only[Act.put,sAp,sA0,sAs]
 refine hfTake 6 (v:=?_) ?_ (by assumption) ?_
 rotate_left
 ·(intro _ h;obtain⟨_,_,_,_⟩:=h;go_simp<;>with_reducible rfl)
 try simp only[Act.put,sAp,sA0,sAs]
 refine hfRdy 7 (by kernel_rfl) rfl fun K hK=>?_
 go_simp
 have N1:=tk_news2 wA (.string (txt t)) (.int .u32 x) 54
 have hbx2:=zh (hbxA.out.alloc (.cells #[.string (txt t),.int .u32 x] 54))
 have hbk2:=zh (hbkA.out.alloc (.cells #[.string (txt t),.int .u32 x] 54))
 have hq2:=zh (hqA.out.alloc (.cells #[.string (txt t),.int .u32 x] 54))
 have hrows2:=zh (hrowsA.out.keepB ((KeepB.refl rdBad wA).alloc (.cells #[.string (txt t),.int .u32 x] 54)) ⟨by decide,by decide,by decide,by decide,by decide⟩)
 have KT2:=zh (KTA.out.alloc (.cells #[.string (txt t),.int .u32 x] 54))
 have BB2:=zh (BBA.out.alloc hBsA (.cells #[.string (txt t),.int .u32 x] 54))
 have hR2:=zh (hRA.out.below ((Below.refl wA.heap.size wA).alloc (Nat.le_refl _) (.cells #[.string (txt t),.int .u32 x] 54)))
 have hsz1:(wA.alloc (.cells #[.string (txt t),.int .u32 x] 54)).heap.size=wA.heap.size+1:=by simp
 have S2:(wA.alloc (.cells #[.string (txt t),.int .u32 x] 54)).cell? ⟨tb,0,none⟩=some (.pointer (some ⟨tk,0,none⟩))∧(wA.alloc (.cells #[.string (txt t),.int .u32 x] 54)).cell? ⟨tk,3,none⟩=some vU∧(wA.alloc (.cells #[.string (txt t),.int .u32 x] 54)).cell? ⟨ub,0,none⟩=some (.string (txt t))∧(wA.alloc (.cells #[.string (txt t),.int .u32 x] 54)).cell? ⟨ub,1,none⟩=some (.int .u32 x):=⟨hbx2.out.cell 0,hbk2.out.cell 3,hq2.out.cell 0,hq2.out.cell 1⟩
 refine hK.out _ _ (fun _=>S2) ?_
 clear hK K S0
 try simp only[Act.put,sAp,sA0,sAs]
 generalize wA.heap.size=g1 at *
 generalize wA.alloc (.cells #[.string (txt t),.int .u32 x] 54)=w2 at *
 refine hfRdy 8 (by kernel_rfl) rfl fun K hK=>?_
 refine step_app w2.drew rfl (.tmp 19) (.tmp 21) 44 rfl B 54 i0 _ 2 24 Tryz.underlying44 hi0 hz0 hz1 hz2 rfl (by omega) vU us.length (us.flatMap useCells) rfl hrows2.out.uses ⟨g1,0,none⟩ 1 1 [.string (txt t),.int .u32 x] rfl rfl N1 (by simp[Value.oneCell']) (by simp only[maxLen];omega) (by omega) (show B≤w2.heap.size from Nat.le_trans hBs BB2.out.size) ?_
 intro v' w3 ho3 hg3
 obtain⟨A3,k3,rfl⟩:=own_slice ho3
 have KG:=((KeepB.refl (fun t=>t==54) w2).drew).trans (KeepB.grown (w:=w2.drew) (bad:=fun t=>t==54) hrows2.out.uses hg3 (by decide))
 have hbx3:=zh (hbx2.out.keepB KG (by decide))
 have hbk3:=zh (hbk2.out.keepB KG (by decide))
 have hq3:=zh (show w3.cell? ⟨ub,0,none⟩=some (.string (txt t))∧w3.cell? ⟨ub,1,none⟩=some (.int .u32 x) from ⟨(Blk.grown hq2.out.drew hg3 (Ne.symm hneU.out)).cell 0,(Blk.grown hq2.out.drew hg3 (Ne.symm hneU.out)).cell 1⟩)
 have KT3:=zh (KT2.out.trans (KG.tk (by decide)))
 have BB3:=zh (BB2.out.drew.grown hg3 (show B≤w2.heap.size from Nat.le_trans hBs BB2.out.size) (fun q hq=>(hrows2.out.uses.lt q hq).1))
 have hr3:=zh (show TkRows B w3 (us++[(t,x)]) ds co en (.slice A3 (us.length+1) k3) vD vC vE from ⟨(by rw[List.length_append,flat_snoc];exact ho3),row_keepB hrows2.out.descs KG (by decide),fun d hd=>(hrows2.out.exts d hd).keepB KG (by decide),row_keepB hrows2.out.code KG (by decide),row_keepB hrows2.out.entries KG (by decide)⟩)
 have hR3:=zh (hR2.out.keepB KG (by decide))
 have S3:w3.cell? ⟨tb,0,none⟩=some (.pointer (some ⟨tk,0,none⟩))∧w3.cell? ⟨tk,3,none⟩=some vU∧w3.cell? ⟨ub,0,none⟩=some (.string (txt t))∧w3.cell? ⟨ub,1,none⟩=some (.int .u32 x):=⟨hbx3.out.cell 0,hbk3.out.cell 3,hq3.out.1,hq3.out.2⟩
 refine hK.out _ _ (fun _=>S3) ?_
 clear hK K S2 KG ho3 hg3 N1
 try simp only[Act.put,sAp,sA0,sAs]
 refine hfRdy 9 (by kernel_rfl) rfl fun K hK=>?_
 go_simp
 refine hK.out _ _ (fun _=>S3) ?_
 clear hK K
 try simp only[Act.put,sAp,sA0,sAs]
 refine hfRdy 10 (by kernel_rfl) rfl fun K hK=>?_
 go_simp
 refine hK.out _ _ (fun _=>S3) ?_
 clear hK K
 try simp only[Act.put,sAp,sA0,sAs]
 refine hfRdy 11 (by kernel_rfl) rfl fun K hK=>?_
 go_simp
 refine hK.out _ _ (fun _=>S3) ?_
 clear hK K
 try simp only[Act.put,sAp,sA0,sAs]
 refine hfRdy 12 (by kernel_rfl) rfl fun K hK=>?_
 obtain⟨s1,s2,s3,s4⟩:=S3
 have f3:=hbk3.out.frozen 3
 go_simp
 refine hK.out _ _ (fun h=>absurd rfl h) ?_
 clear hK K
 try simp only[Act.put,sAp,sA0,sAs]
 refine wpAnyF_done (by kernel_rfl) ?_ _
 have hbkE:=zh (hbk3.out.set_ 3 (.slice A3 (us.length+1) k3))
 have KTE:=zh (KT3.out.setCell hbk3.out (i:=3) (by decide) (.slice A3 (us.length+1) k3))
 have BBE:=zh (BB3.out.setCell (p:=⟨tk,3,none⟩) hB.1 (.slice A3 (us.length+1) k3))
 have KS:=(KeepB.refl (fun t=>t==193) w3).setCell hbk3.out (i:=3) (by decide) (.slice A3 (us.length+1) k3)
 have hrE:=zh (hr3.out.keepB KS ⟨by decide,by decide,by decide,by decide,by decide⟩)
 have hRE:=zh (hR3.out.keepB KS (by decide))
 have hbxE:=zh (hbx3.out.keepB KS (by decide))
 clear KS
 go_wp2_with fail
 go_end0
 exact⟨rfl,(t,x),st',_,took_use h1.out y1.out,⟨h4.out,y4.out⟩,hRE.out,hbkE.out,hrE.out,KTE.out,BBE.out⟩
end Go.Proofs.YtceflhffilldeaaGreat
namespace Go.Proofs.YtceflhffilldeaaGreat
open Go.RowKit ObjL
theorem RdK.alloc {p:Nat} {w w':World} (h:RdK p w w') (o:Obj):RdK p w (w'.alloc o):=h.trans (RdK.of_below ((Below.refl _ _).alloc (Nat.le_refl _) o))
theorem RdK.far {p g i:Nat} {w w':World} (h:RdK p w w') (hg:w.heap.size≤g) (u:Value):RdK p w (w'.setCell ⟨g,i,none⟩ u):=Kept.setCell h (fun hk=>absurd hk.1 (by dsimp only;omega)) u
theorem RdK.grown {p:Nat} {w w' w2:World} {size n:Nat} {e:TypeId} {v:Value} {xs:List Value} (h:RdK p w w') (ho:w'.ownsRow w.heap.size e size v n xs) (hg:w'.grownBy w2 v.ownBlock):RdK p w w2:=
 Kept.grown h hg (fun k hk=>Nat.lt_of_lt_of_le hk.1 h.size) (fun k hk hS=>by have:=(ho.lt k hk).1;omega)
theorem tk_ext1 (w0:World) (tb tk p db:Nat) (s r:List UInt8) (C:Array Value) (n0:Int) (v:Value) (l:List (Int×Int)) (w:World)
  (hK:RdK p w0 w) (hbx:Blk w tb 189 #[.pointer (some ⟨tk,0,none⟩)]) (hbk:Blk w tk 193 C) (hC:C[0]?=some (.pointer (some ⟨p,0,none⟩))) (hdb:Blk w db 84 #[.int .i64 n0,v])
  (hown:w.ownsRow w0.heap.size 93 2 v l.length (l.flatMap extCells)) (hd0:w0.heap.size≤db) (hrd:RdIs rdT w p s (some r)) (hs:s.length≤1000000) (hn:l.length≤2147483647) :
  Calls Tryz.prog 139 #[.pointer (some ⟨tb,0,none⟩),.pointer (some ⟨db,0,none⟩)] w fun e w'=>e=.returned (.tuple #[])∧∃ x st' v',Took rExt (some r) x st'∧(nOk x.1∧nOk x.2)∧RdK p w0 w'∧Blk w' tb 189 #[.pointer (some ⟨tk,0,none⟩)]∧Blk w' tk 193 C∧Blk w' db 84 #[.int .i64 n0,v']∧w'.ownsRow w0.heap.size 93 2 v' (l++[x]).length ((l++[x]).flatMap extCells)∧RdIs rdT w' p s st':=by
 have RDT:=zh (rd_num p s (some r) w hrd hs)
 have hrdH:=zh hrd
 have hbxH:=zh hbx
 have hbkH:=zh hbk
 have hdbH:=zh hdb
 have hownH:=zh hown
 have hKH:=zh hK
 have hCH:=zh hC
 have c0:w.cell? ⟨tb,0,none⟩=some (.pointer (some ⟨tk,0,none⟩)):=hbx.cell 0
 have d0:w.cell? ⟨tk,0,none⟩=some (.pointer (some ⟨p,0,none⟩)):=(hbk.cell 0).trans hC
 obtain⟨i0,hi0,hz0,hz1,hz2⟩:=info_parts tk_ext_info
 clear hbx hbk hrd hdb hown hK hC
 go_enter Tryz.func139,Tryz.ntmps139
 go_wp2_with fail
 refine RDT.out.mono ?_
 rintro e w1 ⟨xa,st1,rfl,h1,h2,h3,h4⟩
 have KB1:=KeepB.rdk hrdH.out h3
 have hbx1:=hbxH.out.keepB KB1 (by decide)
 have hbk1:=hbkH.out.keepB KB1 (by decide)
 have hdb1:=hdbH.out.keepB KB1 (by decide)
 have hown1:=row_keepB hownH.out KB1 (by decide)
 have hK1:=hKH.out.trans h3
 have hneU:v.ownBlock≠some w1.heap.size:=fun h=>by have:=(hown1.lt _ h).2;omega
 have hneU:=zh hneU
 have hsz:w0.heap.size≤w1.heap.size:=hK1.size
 have hsz:=zh hsz
 have hbxA:=zh (hbx1.alloc (.cells #[.int .i64 xa,.int .i64 0] 93))
 have hbkA:=zh (hbk1.alloc (.cells #[.int .i64 xa,.int .i64 0] 93))
 have hdbA:=zh (hdb1.alloc (.cells #[.int .i64 xa,.int .i64 0] 93))
 have hqA:=zh (Blk.new w1 93 #[.int .i64 xa,.int .i64 0])
 have hownA:=zh (hown1.alloc (.cells #[.int .i64 xa,.int .i64 0] 93))
 have hKA:=zh (hK1.alloc (.cells #[.int .i64 xa,.int .i64 0] 93))
 have hRA:=zh (h2.below ((Below.refl w1.heap.size w1).alloc (Nat.le_refl _) (.cells #[.int .i64 xa,.int .i64 0] 93)))
 have h1:=zh h1
 have h4:=zh h4
 clear KB1 hbx1 hbk1 hdb1 hown1 hK1 h2 h3 RDT c0 d0
 go_upto_region 1 with fail
 generalize w1.heap.size=ub at *
 generalize w1.alloc (.cells #[.int .i64 xa,.int .i64 0] 93)=wa at *
 have RDW:=zh (rd_num p s st1 wa hRA.out hs)
 have c0:wa.cell? ⟨tb,0,none⟩=some (.pointer (some ⟨tk,0,none⟩)):=hbxA.out.cell 0
 have d0:wa.cell? ⟨tk,0,none⟩=some (.pointer (some ⟨p,0,none⟩)):=(hbkA.out.cell 0).trans hCH.out
 go_wp2_with fail
 refine RDW.out.mono ?_
 rintro e wb ⟨xb,st',rfl,y1,y2,y3,y4⟩
 have KB2:=KeepB.rdk hRA.out y3
 have hbx1:=hbxA.out.keepB KB2 (by decide)
 have hbk1:=hbkA.out.keepB KB2 (by decide)
 have hdb1:=hdbA.out.keepB KB2 (by decide)
 have hq1:=hqA.out.keepB KB2 (by decide)
 have hown1:=row_keepB hownA.out KB2 (by decide)
 have hK1:=hKA.out.trans y3
 have u1:wb.cell? ⟨ub,1,none⟩=some (.int .i64 0):=hq1.cell 1
 have fu:wb.frozen? ⟨ub,1,none⟩=false:=hq1.frozen 1
 have KS:=(KeepB.refl (fun t=>t==93) wb).setCell hq1 (i:=1) (by decide) (.int .i64 xb)
 clear hbxA hbkA hdbA hownA hKA hRA RDW c0 d0 hqA
 have hbxA:=zh (hbx1.keepB KS (by decide))
 have hbkA:=zh (hbk1.keepB KS (by decide))
 have hdbA:=zh (hdb1.keepB KS (by decide))
 have hqA:=zh (hq1.set_ 1 (.int .i64 xb))
 have hownA:=zh (ownsRow_setCell_other (a:=⟨ub,1,none⟩) hown1 hneU.out (.int .i64 xb))
 have hKA:=zh (hK1.far (g:=ub) (i:=1) hsz.out (.int .i64 xb))
 have hRA:=zh (y2.keepB KS (by decide))
 have y1:=zh y1
 have y4:=zh y4
 clear hbx1 hbk1 hdb1 hq1 hown1 hK1 KB2 KS y2 y3
 go_upto_region 2 with fail
 generalize wb.setCell ⟨ub,1,none⟩ (.int .i64 xb)=wA at *
 have hqA:Hid (Blk wA ub 93 #[.int .i64 xa,.int .i64 xb]):=hqA
 have q0:wA.cell? ⟨ub,0,none⟩=some (.int .i64 xa):=hqA.out.cell 0
 have q1:wA.cell? ⟨ub,1,none⟩=some (.int .i64 xb):=hqA.out.cell 1
 have e1:wA.cell? ⟨db,1,none⟩=some v:=hdbA.out.cell 1
 have hszA:w0.heap.size≤wA.heap.size:=hKA.out.size
 have hbx2:=zh (hbxA.out.alloc (.cells #[.int .i64 xa,.int .i64 xb] 93))
 have hbk2:=zh (hbkA.out.alloc (.cells #[.int .i64 xa,.int .i64 xb] 93))
 have hdb2:=zh (hdbA.out.alloc (.cells #[.int .i64 xa,.int .i64 xb] 93))
 have hown2:=zh (hownA.out.alloc (.cells #[.int .i64 xa,.int .i64 xb] 93))
 have hK2:=zh (hKA.out.alloc (.cells #[.int .i64 xa,.int .i64 xb] 93))
 have hR2:=zh (hRA.out.below ((Below.refl wA.heap.size wA).alloc (Nat.le_refl _) (.cells #[.int .i64 xa,.int .i64 xb] 93)))
 go_wp2_with (at_builtin;refine wpList_append_own _ rfl (.tmp 16) (.tmp 18) 82 rfl w0.heap.size 93 i0 _ 2 16 Tryz.underlying82 hi0 hz0 hz1 hz2 rfl (by omega) v l.length (l.flatMap extCells) rfl hown2.out ⟨wA.heap.size,0,none⟩ 1 1 [.int .i64 xa,.int .i64 xb] rfl rfl (tk_news2 wA _ _ _) (by simp[Value.oneCell']) (by simp only[maxLen];omega) (by omega) (by simp;omega) ?_;intro v' w3 ho3 hg3 _;obtain⟨A3,k3,rfl⟩:=own_slice ho3;have KG:=KeepB.grown (bad:=fun t=>t==93) hown2.out hg3 (by decide);have hdb3:=hdb2.out.keepB KG (by decide);have E1:w3.cell? ⟨db,1,none⟩=some v:=hdb3.cell 1;have F1:w3.frozen? ⟨db,1,none⟩=false:=hdb3.frozen 1;have hbx3:=zh (hbx2.out.keepB KG (by decide));have hbk3:=zh (hbk2.out.keepB KG (by decide));have hR3:=zh (hR2.out.keepB KG (by decide));have hK3:=zh (hK2.out.grown hown2.out hg3);have hdb3:=zh hdb3;have ho3:=zh ho3;clear KG hg3)
 go_end0
 have KS:=(KeepB.refl (fun t=>t==84) w3).setCell hdb3.out (i:=1) (by decide) (.slice A3 (l.length+1) k3)
 exact⟨rfl,(xa,xb),st',_,took_ext h1.out y1.out,⟨h4.out,y4.out⟩,hK3.out.far hd0 _,hbx3.out.keepB KS (by decide),hbk3.out.keepB KS (by decide),hdb3.out.set_ 1 _,(by rw[List.length_append,flat_snoc];exact row_keepB ho3.out KS (by decide)),hR3.out.keepB KS (by decide)⟩
theorem tk_descs1 (B tb tk p:Nat) (s r nm ss:List UInt8) (key da ca pl:Int) (us:List (List UInt8×Int)) (ds:List DV) (co en:List Int) (vU vD vC vE:Value) (w:World)
  (hbx:Blk w tb 189 #[.pointer (some ⟨tk,0,none⟩)]) (hbk:Blk w tk 193 (tkCells p nm key vU vD da ss vC vE ca pl)) (hrd:RdIs rdT w p s (some r)) (hrows:TkRows B w us ds co en vU vD vC vE)
  (hB:B≤tk∧B≤p) (hs:s.length≤1000000) (hn:ds.length≤2147483647) :
  Calls Tryz.prog 137 #[.pointer (some ⟨tb,0,none⟩)] w fun e w'=>e=.returned (.tuple #[])∧∃ (x:Int×List (Int×Int)) (vx:Value) (st':Lft) (v':Value),Took (rDesc false) (some r) x st'∧(nOk x.1∧∀ e∈x.2,nOk e.1∧nOk e.2)∧RdIs rdT w' p s st'∧Blk w' tk 193 (tkCells p nm key vU v' da ss vC vE ca pl)∧TkRows B w' us (ds++[(x,vx)]) co en vU v' vC vE∧KeepB tkBad w w'∧Below B w w':=by
 have RDT:=zh (rd_num p s (some r) w hrd hs)
 have hrdH:=zh hrd
 have hbxH:=zh hbx
 have hbkH:=zh hbk
 have hrowsH:=zh hrows
 have hpl:=hrd.lt
 have hBs:B≤w.heap.size:=by omega
 have c0:w.cell? ⟨tb,0,none⟩=some (.pointer (some ⟨tk,0,none⟩)):=hbx.cell 0
 have d0:w.cell? ⟨tk,0,none⟩=some (.pointer (some ⟨p,0,none⟩)):=hbk.cell 0
 clear hbx hbk hrd hrows
 go_enter Tryz.func137,Tryz.ntmps137
 go_wp2_with fail
 refine RDT.out.mono ?_
 rintro e w1 ⟨n0,st1,rfl,h1,h2,h3,h4⟩
 have KB1:=KeepB.rdk hrdH.out h3
 have hbxA:=zh ((hbxH.out.keepB KB1 (by decide)).alloc (.cells #[.int .i64 n0,.slice none 0 0] 84))
 have hbkA:=zh ((hbkH.out.keepB KB1 (by decide)).alloc (.cells #[.int .i64 n0,.slice none 0 0] 84))
 have hqA:=zh (Blk.new w1 84 #[.int .i64 n0,.slice none 0 0])
 have hKA:=zh (RdK.alloc h3 (.cells #[.int .i64 n0,.slice none 0 0] 84))
 have hRA:=zh (h2.below ((Below.refl w1.heap.size w1).alloc (Nat.le_refl _) (.cells #[.int .i64 n0,.slice none 0 0] 84)))
 have hdl:Hid (w.heap.size≤w1.heap.size):=zh h3.size
 have h1:=zh h1
 have h4:=zh h4
 clear KB1 h2 h3 RDT c0 d0
 go_upto_region 1 with fail
 generalize w1.heap.size=db at *
 generalize w1.alloc (.cells #[.int .i64 n0,.slice none 0 0] 84)=wa at *
 have c0:wa.cell? ⟨tb,0,none⟩=some (.pointer (some ⟨tk,0,none⟩)):=hbxA.out.cell 0
 have EA:=zh (tk_each 139 #[.pointer (some ⟨tb,0,none⟩),.pointer (some ⟨db,0,none⟩)] tk p s st1 wa
  (fun n k st W=>∃ (l:List (Int×Int)) (v:Value) (sA:Lft),l.length=k∧RdK p w W∧Blk W tb 189 #[.pointer (some ⟨tk,0,none⟩)]∧Blk W tk 193 (tkCells p nm key vU vD da ss vC vE ca pl)∧Blk W db 84 #[.int .i64 n0,v]∧W.ownsRow w.heap.size 93 2 v l.length (l.flatMap extCells)∧RdIs rdT W p s st∧Took rNum st1 n sA∧Took (many rExt k) sA l st∧∀ e∈l,nOk e.1∧nOk e.2)
  (fun W=>by rfl) hs hRA.out (hbkA.out.cell 0)
  (fun n k st W h=>by obtain⟨l,v,sA,q1,q2,q3,q4,q5,q6,q7,-⟩:=h;exact⟨q7,q4.cell 0⟩)
  (fun n st W ht hn0 hr hk=>⟨[],.slice none 0 0,st,rfl,hKA.out.trans hk,hbxA.out.keepB (KeepB.rdk hRA.out hk) (by decide),hbkA.out.keepB (KeepB.rdk hRA.out hk) (by decide),hqA.out.keepB (KeepB.rdk hRA.out hk) (by decide),World.ownsRow_nil _ _ _ _,hr,ht,took_zero _ _,fun e he=>absurd he (by simp)⟩)
  (fun n k r2 W hn0 hk h=>by
   obtain⟨l,v,sA,q1,q2,q3,q4,q5,q6,q7,q8,q9,q10⟩:=h
   subst q1
   refine(tk_ext1 w tb tk p db s r2 _ n0 v l W q2 q3 q4 rfl q5 q6 hdl.out q7 hs (by unfold nOk at hn0;omega)).mono ?_
   rintro e W' ⟨rfl,x,st',v',z1,z2,z3,z4,z5,z6,z7,z8⟩
   refine⟨rfl,st',l++[x],v',sA,by simp,z3,z4,z5,z6,z7,z8,q8,took_snoc q9 z1,fun e he=>?_⟩
   rcases List.mem_append.1 he with he | he
   ·exact q10 e he
   ·rw[List.mem_singleton.1 he];exact z2))
 go_wp2_with fail
 refine EA.out.mono ?_
 rintro e wA ⟨rfl,n,k,st',hn1,⟨l,v,sA,q1,q2,q3,q4,q5,q6,q7,q8,q9,q10⟩,hkn,hend⟩
 subst q1
 have hmany:Took (many rExt n.toNat) sA l st':=by
  rcases hend with rfl | he
  ·exact took_more hkn q9
  ·rw[← he];exact q9
 have hdesc:=zh (took_desc (b:=false) h1.out (took_cnt q8) hmany)
 have hall:=zh q10
 have hex:=zh (ERowT.of_own q6)
 obtain⟨Av,kv,rfl⟩:=own_slice q6
 have KB1:=KeepB.rdk hrdH.out q2
 have hneU:Hid (vD.ownBlock≠some db):=zh (fun h=>by have:=(hrowsH.out.descs.lt _ h).2;have:=hdl.out;omega)
 have hrowsA:=zh (hrowsH.out.keepB KB1 ⟨by decide,by decide,by decide,by decide,by decide⟩)
 have KTA:=zh (KB1.tk (by decide))
 have BBA:Hid (Below B w wA):=zh (q2.to_below hB.2 hpl)
 clear hbxA hbkA hqA hKA hRA EA c0 hmany hend hkn q8 q9 q10 q6 KB1 hn1
 have hbxA:=zh q3
 have hbkA:=zh q4
 have hqA:=zh q5
 have hRA:=zh q7
 clear q2 q3 q4 q5 q7
 go_upto_region 2 with fail
 have hBsA:=Nat.le_trans hBs BBA.out.size
 have S0:wA.drew.cell? ⟨tb,0,none⟩=some (.pointer (some ⟨tk,0,none⟩))∧wA.drew.cell? ⟨tk,4,none⟩=some vD∧wA.drew.cell? ⟨db,0,none⟩=some (.int .i64 n0)∧wA.drew.cell? ⟨db,1,none⟩=some (.slice Av l.length kv):=⟨hbxA.out.cell 0,hbkA.out.cell 4,hqA.out.cell 0,hqA.out.cell 1⟩
 obtain⟨i0,hi0,hz0,hz1,hz2⟩:=info_parts tk_desc_info
 refine wp_region_F (fun w'=>w'.cell? ⟨tb,0,none⟩=some (.pointer (some ⟨tk,0,none⟩))∧w'.cell? ⟨tk,4,none⟩=some vD∧w'.cell? ⟨db,0,none⟩=some (.int .i64 n0)∧w'.cell? ⟨db,1,none⟩=some (.slice Av l.length kv)) 12 (by kernel_rfl) ?_
 refine hfTake 0 (v:=?_) ?_ (by assumption) ?_
 rotate_left
 ·(intro _ h;obtain⟨_,_,_,_⟩:=h;go_simp<;>with_reducible rfl)
 try simp only[Act.put,sAp,sA0,sAs]
 refine hfTake 1 (v:=?_) ?_ (by assumption) ?_
 rotate_left
 ·(intro _ h;obtain⟨_,_,_,_⟩:=h;go_simp<;>with_reducible rfl)
 try simp only[Act.put,sAp,sA0,sAs]
 refine hfTake 2 (v:=?_) ?_ (by assumption) ?_
 rotate_left
 ·(intro _ h;obtain⟨_,_,_,_⟩:=h;go_simp<;>with_reducible rfl)
 try simp only[Act.put,sAp,sA0,sAs]
 refine hfTake 3 (v:=?_) ?_ (by assumption) ?_
 rotate_left
 ·(intro _ h;obtain⟨_,_,_,_⟩:=h;go_simp<;>with_reducible rfl)
 try simp only[Act.put,sAp,sA0,sAs]
 refine hfTake 4 (v:=?_) ?_ (by assumption) ?_
 rotate_left
 ·(intro _ h;obtain⟨_,_,_,_⟩:=h;go_simp<;>with_reducible rfl)
 try simp only[Act.put,sAp,sA0,sAs]
 refine hfTake 5 (v:=?_) ?_ (by assumption) ?_
 rotate_left
 ·(intro _ h;obtain⟨_,_,_,_⟩:=h;go_simp<;>with_reducible rfl)
 try simp only[Act.put,sAp,sA0,sAs]
 refine hfTake 6 (v:=?_) ?_ (by assumption) ?_
 rotate_left
 ·(intro _ h;obtain⟨_,_,_,_⟩:=h;go_simp<;>with_reducible rfl)
 try simp only[Act.put,sAp,sA0,sAs]
 refine hfRdy 7 (by kernel_rfl) rfl fun K hK=>?_
 go_simp
 have N1:=tk_news2 wA (.int .i64 n0) (.slice Av l.length kv) 84
 have hbx2:=zh (hbxA.out.alloc (.cells #[.int .i64 n0,.slice Av l.length kv] 84))
 have hbk2:=zh (hbkA.out.alloc (.cells #[.int .i64 n0,.slice Av l.length kv] 84))
 have hq2:=zh (hqA.out.alloc (.cells #[.int .i64 n0,.slice Av l.length kv] 84))
 have hrows2:=zh (hrowsA.out.keepB ((KeepB.refl rdBad wA).alloc (.cells #[.int .i64 n0,.slice Av l.length kv] 84)) ⟨by decide,by decide,by decide,by decide,by decide⟩)
 have KT2:=zh (KTA.out.alloc (.cells #[.int .i64 n0,.slice Av l.length kv] 84))
 have BB2:=zh (BBA.out.alloc hBsA (.cells #[.int .i64 n0,.slice Av l.length kv] 84))
 have hex2:=zh (hex.out.keepB ((KeepB.refl rdBad wA).alloc (.cells #[.int .i64 n0,.slice Av l.length kv] 84)) (by decide))
 have hR2:=zh (hRA.out.below ((Below.refl wA.heap.size wA).alloc (Nat.le_refl _) (.cells #[.int .i64 n0,.slice Av l.length kv] 84)))
 have hsz1:(wA.alloc (.cells #[.int .i64 n0,.slice Av l.length kv] 84)).heap.size=wA.heap.size+1:=by simp
 have S2:(wA.alloc (.cells #[.int .i64 n0,.slice Av l.length kv] 84)).cell? ⟨tb,0,none⟩=some (.pointer (some ⟨tk,0,none⟩))∧(wA.alloc (.cells #[.int .i64 n0,.slice Av l.length kv] 84)).cell? ⟨tk,4,none⟩=some vD∧(wA.alloc (.cells #[.int .i64 n0,.slice Av l.length kv] 84)).cell? ⟨db,0,none⟩=some (.int .i64 n0)∧(wA.alloc (.cells #[.int .i64 n0,.slice Av l.length kv] 84)).cell? ⟨db,1,none⟩=some (.slice Av l.length kv):=⟨hbx2.out.cell 0,hbk2.out.cell 4,hq2.out.cell 0,hq2.out.cell 1⟩
 refine hK.out _ _ (fun _=>S2) ?_
 clear hK K S0
 try simp only[Act.put,sAp,sA0,sAs]
 generalize wA.heap.size=g1 at *
 generalize wA.alloc (.cells #[.int .i64 n0,.slice Av l.length kv] 84)=w2 at *
 refine hfRdy 8 (by kernel_rfl) rfl fun K hK=>?_
 refine step_app w2.drew rfl (.tmp 16) (.tmp 18) 45 rfl B 84 i0 _ 2 32 Tryz.underlying45 hi0 hz0 hz1 hz2 rfl (by omega) vD ds.length (ds.flatMap dvCells) rfl hrows2.out.descs ⟨g1,0,none⟩ 1 1 [.int .i64 n0,.slice Av l.length kv] rfl rfl N1 (by simp[Value.oneCell']) (by simp only[maxLen];omega) (by omega) (show B≤w2.heap.size from Nat.le_trans hBs BB2.out.size) ?_
 intro v' w3 ho3 hg3
 obtain⟨A3,k3,rfl⟩:=own_slice ho3
 have KG:=((KeepB.refl (fun t=>t==84) w2).drew).trans (KeepB.grown (w:=w2.drew) (bad:=fun t=>t==84) hrows2.out.descs hg3 (by decide))
 have hbx3:=zh (hbx2.out.keepB KG (by decide))
 have hbk3:=zh (hbk2.out.keepB KG (by decide))
 have hq3:=zh (show w3.cell? ⟨db,0,none⟩=some (.int .i64 n0)∧w3.cell? ⟨db,1,none⟩=some (.slice Av l.length kv) from ⟨(Blk.grown hq2.out.drew hg3 (Ne.symm hneU.out)).cell 0,(Blk.grown hq2.out.drew hg3 (Ne.symm hneU.out)).cell 1⟩)
 have KT3:=zh (KT2.out.trans (KG.tk (by decide)))
 have BB3:=zh (BB2.out.drew.grown hg3 (show B≤w2.heap.size from Nat.le_trans hBs BB2.out.size) (fun q hq=>(hrows2.out.descs.lt q hq).1))
 have hr3:=zh (show TkRows B w3 us (ds++[((n0,l),.slice Av l.length kv)]) co en vU (.slice A3 (ds.length+1) k3) vC vE from ⟨row_keepB hrows2.out.uses KG (by decide),(by rw[List.length_append,flat_snoc];exact ho3),(fun d hd=>by rcases List.mem_append.1 hd with hd | hd;exact(hrows2.out.exts d hd).keepB KG (by decide);rw[List.mem_singleton.1 hd];exact hex2.out.keepB KG (by decide)),row_keepB hrows2.out.code KG (by decide),row_keepB hrows2.out.entries KG (by decide)⟩)
 have hR3:=zh (hR2.out.keepB KG (by decide))
 have S3:w3.cell? ⟨tb,0,none⟩=some (.pointer (some ⟨tk,0,none⟩))∧w3.cell? ⟨tk,4,none⟩=some vD∧w3.cell? ⟨db,0,none⟩=some (.int .i64 n0)∧w3.cell? ⟨db,1,none⟩=some (.slice Av l.length kv):=⟨hbx3.out.cell 0,hbk3.out.cell 4,hq3.out.1,hq3.out.2⟩
 refine hK.out _ _ (fun _=>S3) ?_
 clear hK K S2 KG ho3 hg3 N1
 try simp only[Act.put,sAp,sA0,sAs]
 refine hfRdy 9 (by kernel_rfl) rfl fun K hK=>?_
 go_simp
 refine hK.out _ _ (fun _=>S3) ?_
 clear hK K
 try simp only[Act.put,sAp,sA0,sAs]
 refine hfRdy 10 (by kernel_rfl) rfl fun K hK=>?_
 go_simp
 refine hK.out _ _ (fun _=>S3) ?_
 clear hK K
 try simp only[Act.put,sAp,sA0,sAs]
 refine hfRdy 11 (by kernel_rfl) rfl fun K hK=>?_
 go_simp
 refine hK.out _ _ (fun _=>S3) ?_
 clear hK K
 try simp only[Act.put,sAp,sA0,sAs]
 refine hfRdy 12 (by kernel_rfl) rfl fun K hK=>?_
 obtain⟨s1,s2,s3,s4⟩:=S3
 have f3:=hbk3.out.frozen 4
 go_simp
 refine hK.out _ _ (fun h=>absurd rfl h) ?_
 clear hK K
 try simp only[Act.put,sAp,sA0,sAs]
 refine wpAnyF_done (by kernel_rfl) ?_ _
 have hbkE:=zh (hbk3.out.set_ 4 (.slice A3 (ds.length+1) k3))
 have KTE:=zh (KT3.out.setCell hbk3.out (i:=4) (by decide) (.slice A3 (ds.length+1) k3))
 have BBE:=zh (BB3.out.setCell (p:=⟨tk,4,none⟩) hB.1 (.slice A3 (ds.length+1) k3))
 have KS:=(KeepB.refl (fun t=>t==193) w3).setCell hbk3.out (i:=4) (by decide) (.slice A3 (ds.length+1) k3)
 have hrE:=zh (hr3.out.keepB KS ⟨by decide,by decide,by decide,by decide,by decide⟩)
 have hRE:=zh (hR3.out.keepB KS (by decide))
 have hbxE:=zh (hbx3.out.keepB KS (by decide))
 clear KS
 go_wp2_with fail
 go_end0
 exact⟨rfl,(n0,l),.slice Av l.length kv,st',_,hdesc.out,⟨h4.out,hall.out⟩,hRE.out,hbkE.out,hrE.out,KTE.out,BBE.out⟩
end Go.Proofs.YtceflhffilldeaaGreat
