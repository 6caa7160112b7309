/-
  Joined: ZLdLk.
-/
import Derived.Test.YtceflhffilldeaaGreatZLdPl
set_option linter.unusedVariables false
set_option linter.unusedSimpArgs false
set_option maxRecDepth 100000
set_option maxHeartbeats 16000000
namespace Go.Proofs.YtceflhffilldeaaGreat
open Go.RowKit ObjL Ldr Go.Maps Go.WideMaps
def LkEnd (w:World) (D:DataW Unit) (e:Ending) (w':World):Prop:=∃ b N,e=.returned (.map (some b))∧lkMap w' b N D∧Below w.heap.size w w'
theorem links_ok (B lp mb sp n:Nat) (D:DataW Unit) (vO:Value) (xs:List OM) (s:LS) (w:World) (h:LdAt 0 0 B lp mb sp w n D vO xs s) (hm:s.im.Ok) (gm cm:Nat) (hM:MRow w gm s.im) (i:Nat) (hi:i<xs.length) :
  Calls Tryz.prog 70 #[.pointer (some ⟨lp,0,none⟩),.slice (some ⟨gm,0,none⟩) xs.length cm,.int .i64 i] w (LkEnd w (s.im.links i)):=by
 have hl1:1≤xs.length:=by omega
 have hxl:xs.length≤16:=by rw[← h.im_n];exact hm.few
 obtain⟨go,kk,rfl,hgo⟩:=h.place (by omega)
 have hlpl:=h.blk.lt
 have hgml:=hM.lt
 have c3:=h.blk.cell 3
 simp only[gAr,gC0,gCs] at c3
 have hn:=zh h.im_n
 have hin:i<s.im.n:=by rw[hn.out];exact hi
 have hui:=(hm.fit hin).uses
 obtain⟨AU0,cU0,AD0,cD0,AC0,cC0,AE0,cE0,F0⟩:=(h.oms xs[i] (List.getElem_mem hi)).form
 have hr0:=h.range hi
 rw[F0.eq,← h.im_ob hi] at hr0
 have x2:w.cell? ⟨go,i*10+2,none⟩=some (.slice AU0 (s.im.ob i).uses.length cU0):=by
  have:=hr0 2 _ rfl
  rw[h.im_ob hi] at this ⊢
  exact this
 have hh:=zh h
 have hmh:=zh hm
 have hMh:=zh hM
 have hlk:Hid (s.im.links i=iter (s.im.lkMod i) (.map []) ((s.im.ob i).uses.length+1)):=zh rfl
 have hil:(i:Int)<(xs.length:Int):=by omega
 have MM:∀ W:World,(Instr.makeMap 154 none).run Tryz.prog W=.ok (.map (some W.heap.size)) (W.alloc (.map #[] 0)):=fun W=>rfl
 have c3b:(w.alloc (.map #[] 0)).cell? ⟨lp,3,none⟩=some (.slice (some ⟨go,0,none⟩) xs.length kk):=(World.cell?_alloc_lt w _ _ hlpl).trans c3
 have x2b:(w.alloc (.map #[] 0)).cell? ⟨go,i*10+2,none⟩=some (.slice AU0 (s.im.ob i).uses.length cU0):=(World.cell?_alloc_lt w _ _ hgo).trans x2
 have hu1:wrap64 (((s.im.ob i).uses.length:Int)+1)=((s.im.ob i).uses.length:Int)+1:=by unfold wrap64;omega
 have huh:=zh (show ∀ q:Nat,(q:Int)≤(s.im.ob i).uses.length→s.im.usedN i q<s.im.n∧((s.im.usedN i q:Nat):Int)=s.im.used i q from fun q hq=>Im.usedN_lt hm hin (by omega) hq)
 have huo:=zh (show ∀ w1:World,Below w.heap.size w w1→∀ q:Nat,(q:Int)≤(s.im.ob i).uses.length→Calls Tryz.prog 68 #[.pointer (some ⟨lp,0,none⟩),.int .i64 i,.int .i64 q] w1 fun e w'=>e=.returned (.int .i64 (s.im.used i q))∧Kept (fun _=>True) w1 w' from fun w1 hb q hq=>used_ok B lp mb sp n D _ xs s w1 (h.below hb) hm i hi q (by omega) hq)
 generalize hUL:(s.im.ob i).uses.length=ul at *
 clear h hm hM F0 hr0 x2 c3 hUL
 go_enter Tryz.func70,Tryz.ntmps70
 go_wp2_with fail
 clear c3b x2b hu1 MM
 go_loopw [28] (fun iv wr=>∃ k:Nat,iv=.int .i64 k∧k≤ul+1∧Hid (∃ N,N≤12480*k∧lkMap wr w.heap.size N (iter (s.im.lkMod i) (.map []) k)∧Below w.heap.size w wr)) (fun iv _=>20-(intOf iv).toNat)
 case atStart=>exact⟨0,rfl,by omega,zh ⟨0,by omega,World.ownsMap_made w _ _ _,(Below.refl _ _).alloc (Nat.le_refl _) _⟩⟩
 case round=>
  obtain⟨k,rfl,hk,hI⟩:=hrel
  by_cases hlt:(k:Int)<((ul:Int)+1)
  ·obtain⟨N0,hN0,hmap,hbw⟩:=hI.out
   have hku:(k:Int)≤ul:=by omega
   obtain⟨hj,hje⟩:=huh.out k hku
   have US:=zh (huo.out wr hbw k hku)
   rw[← hje] at US
   have hmd:Hid (iter (s.im.lkMod i) (.map []) (k+1)=iter (s.im.lkData (s.im.usedN i k) k) (iter (s.im.lkDesc (s.im.usedN i k) k) (iter (s.im.lkEnt (s.im.usedN i k) k) (iter (s.im.lkMod i) (.map []) k) (s.im.ob (s.im.usedN i k)).entries.length) (s.im.ob (s.im.usedN i k)).descs.length) (s.im.dataN (s.im.usedN i k) k).toNat):=zh rfl
   generalize iter (s.im.lkMod i) (.map []) k=D0 at *
   generalize hjj:s.im.usedN i k=j at *
   have hmap:=zh hmap
   have hbw:=zh hbw
   have hN0:=zh hN0
   clear hje hI hjj
   go_upto_region 6 with (first | (go_at_call 68;refine US.out.mono ?_;rintro e w1 ⟨rfl,hk1⟩;have hk1:=zh hk1;clear US) | fail)
   have hbw1:=zh (hbw.out.trans ((still_below hk1.out).mono hbw.out.size))
   have hmap1:Hid (lkMap w1 w.heap.size N0 D0):=zh (lkMap_kept hmap.out hk1.out trivial)
   clear hmap hbw hk1
   generalize w1=wr at *
   have hjx:j<xs.length:=by rw[← hn.out];exact hj
   obtain⟨AU,cU,AD,cD,AC,cC,AE,cE,F⟩:=(hh.out.oms xs[j] (List.getElem_mem hjx)).form
   have hrj:=hh.out.range hjx
   rw[F.eq,← hh.out.im_ob hjx] at hrj
   have hen:=F.entries
   rw[← hh.out.im_ob hjx] at hen
   have hMr:=hMh.out.range hj
   have hlpw:=hh.out.blk.cell 3
   simp only[gAr,gC0,gCs] at hlpw
   have hTS:Hid (∀ W',Below w.heap.size w W'→TwoS lp go gm j (.slice (some ⟨go,0,none⟩) xs.length kk) (obCells (s.im.ob j) (.slice AU (s.im.ob j).uses.length cU) (.slice AD (s.im.ob j).descs.length cD) (.slice AC (s.im.ob j).code.length cC) (.slice AE (s.im.ob j).entries.length cE)) (plCells (s.im.ob j) (s.im.pl j)) W'):=zh (fun W' hb=>TwoS.below ⟨hlpw,hrj,hMr⟩ hb hlpl hgo hgml)
   have hent:=zh hen
   have hfit:=hmh.out.fit hj
   have hpk:=Im.pl_ok (m:=s.im) j
   have hat:=Im.at_bd hmh.out j (by omega)
   have hdn:Hid (s.im.dataN j k=(s.im.ob j).data+(if k=0 then ((s.im.ob j).strings.length:Int) / 4 else 0)):=zh rfl
   have hE1:Hid (∀ (q:Nat) (E:DataW Unit),s.im.lkEnt j k q E=(E.put (pkey 0 k q) (pnum ((s.im.pl j).code+(s.im.ob j).entries.getD q 0))).put (pkey 2 k q) (pnum ((s.im.pl j).code+(s.im.ob j).entries.getD q 0))):=zh fun _ _=>rfl
   have hE2:Hid (∀ (q:Nat) (E:DataW Unit),s.im.lkDesc j k q E=E.put (pkey 3 k q) (pnum ((s.im.pl j).descs+6*q))):=zh fun _ _=>rfl
   have hE3:Hid (∀ (q:Nat) (E:DataW Unit),s.im.lkData j k q E=E.put (pkey 1 k q) (pnum ((s.im.pl j).data+q))):=zh fun _ _=>rfl
   obtain⟨f1,f2,f3,f4,f5,f6,f7,f8,-,-⟩:=hfit
   obtain⟨p0,p1,p2,p3,-⟩:=hpk
   have hju:j≤16:=by have:=hmh.out.few;omega
   have f8:=zh f8
   clear hrj hen hMr F hlpw
   generalize s.im.lkEnt j k=fE at *
   generalize s.im.lkDesc j k=fD at *
   generalize s.im.lkData j k=fT at *
   generalize s.im.dataN j k=dN at *
   obtain⟨dn,rfl,hdnb⟩:∃ dn:Nat,dN=(dn:Int)∧dn≤12288:=by
    have e:=hdn.out
    refine⟨dN.toNat,?_,?_⟩<;>split at e<;>omega
   rw[Int.toNat_natCast] at hmd
   generalize s.im.ob j=x at *
   generalize s.im.pl j=pl at *
   generalize s.im.at_ j=aj at *
   have hpc:0≤pl.code∧pl.code≤400000∧0≤pl.descs∧pl.descs≤400000∧0≤pl.data∧pl.data≤400000:=by omega
   clear p0 p1 p2 p3 hat
   have Oc:Hid ((obCells x (.slice AU x.uses.length cU) (.slice AD x.descs.length cD) (.slice AC x.code.length cC) (.slice AE x.entries.length cE)).all (·.oneCell')=true):=zh (by simp only[obCells,List.all_toArray,List.all_cons,List.all_nil];simp[Value.oneCell'])
   have HS:Hid (∀ W',Below wr.heap.size wr W'→TwoS lp go gm j (.slice (some ⟨go,0,none⟩) xs.length kk) (obCells x (.slice AU x.uses.length cU) (.slice AD x.descs.length cD) (.slice AC x.code.length cC) (.slice AE x.entries.length cE)) (plCells x pl) W'):=zh (fun W' hb=>hTS.out W' (hbw1.out.trans (hb.mono hbw1.out.size)))
   go_cut [10,11] from 35 to 45 (fun ra rb wx=>∃ qo qp:Nat,ra=.pointer (some ⟨qo,0,none⟩)∧rb=.pointer (some ⟨qp,0,none⟩)∧Hid (Blk wx qo obT (obCells x (.slice AU x.uses.length cU) (.slice AD x.descs.length cD) (.slice AC x.code.length cC) (.slice AE x.entries.length cE))∧Blk wx qp plT (plCells x pl)∧wr.heap.size≤qo∧wr.heap.size≤qp∧Below wr.heap.size wr wx))
   case first=>
    refine wp_region_F (TwoS lp go gm j (.slice (some ⟨go,0,none⟩) xs.length kk) (obCells x (.slice AU x.uses.length cU) (.slice AD x.descs.length cD) (.slice AC x.code.length cC) (.slice AE x.entries.length cE)) (plCells x pl)) 14 (by kernel_rfl) ?_
    have S0:=HS.out wr.drew (Below.refl wr.heap.size wr).drew
    refine hfTake 0 (v:=?_) ?_ S0 ?_
    rotate_left
    ·(intro _ h;obtain⟨_,_,_⟩:=h;go_simp<;>with_reducible rfl)
    try simp only[Act.put,sAp,sA0,sAs]
    refine hfTake 1 (v:=?_) ?_ S0 ?_
    rotate_left
    ·(intro _ h;obtain⟨_,_,_⟩:=h;go_simp<;>with_reducible rfl)
    try simp only[Act.put,sAp,sA0,sAs]
    refine hfTake 2 (v:=?_) ?_ S0 ?_
    rotate_left
    ·(intro _ h;obtain⟨_,_,_⟩:=h;go_simp<;>with_reducible rfl)
    try simp only[Act.put,sAp,sA0,sAs]
    refine hfTake 3 (v:=?_) ?_ S0 ?_
    rotate_left
    ·(intro _ h;obtain⟨_,_,_⟩:=h;go_simp<;>with_reducible rfl)
    try simp only[Act.put,sAp,sA0,sAs]
    refine hfTake 4 (v:=?_) ?_ S0 ?_
    rotate_left
    ·(intro _ h;obtain⟨_,_,_⟩:=h;go_simp<;>with_reducible rfl)
    try simp only[Act.put,sAp,sA0,sAs]
    refine hfTake 5 (v:=?_) ?_ S0 ?_
    rotate_left
    ·(intro _ h;obtain⟨_,_,_⟩:=h;go_simp<;>with_reducible rfl)
    try simp only[Act.put,sAp,sA0,sAs]
    refine wpAnyF_takeY 6 rfl (by kernel_rfl) (by kernel_rfl) (by kernel_rfl) (by kernel_rfl) (fun _ _ _ h=>h) (yieldsIf_load_mid rfl 48 (.tmp 40) rfl go (j*10) rfl (obCells x (.slice AU x.uses.length cU) (.slice AD x.descs.length cD) (.slice AC x.code.length cC) (.slice AE x.entries.length cE)).toList _ (fun wS hSw=>hSw.2.1) Tryz.underlying48 rfl (by kernel_rfl)) S0 ?_
    try simp only[Act.put,sAp,sA0,sAs]
    refine hfTake 7 (v:=?_) ?_ S0 ?_
    rotate_left
    ·(intro _ h;obtain⟨_,_,_⟩:=h;go_simp<;>with_reducible rfl)
    try simp only[Act.put,sAp,sA0,sAs]
    refine hfTake 8 (v:=?_) ?_ S0 ?_
    rotate_left
    ·(intro _ h;obtain⟨_,_,_⟩:=h;go_simp<;>with_reducible rfl)
    try simp only[Act.put,sAp,sA0,sAs]
    refine hfTake 9 (v:=?_) ?_ S0 ?_
    rotate_left
    ·(intro _ h;obtain⟨_,_,_⟩:=h;go_simp<;>with_reducible rfl)
    try simp only[Act.put,sAp,sA0,sAs]
    refine wpAnyF_takeY 10 rfl (by kernel_rfl) (by kernel_rfl) (by kernel_rfl) (by kernel_rfl) (fun _ _ _ h=>h) (yieldsIf_load_mid rfl 39 (.tmp 44) rfl gm (j*6) rfl (plCells x pl).toList _ (fun wS hSw=>hSw.2.2) Tryz.underlying39 rfl (by kernel_rfl)) S0 ?_
    try simp only[Act.put,sAp,sA0,sAs]
    refine wpAnyF_ready [11,12] (by kernel_rfl) (by simp) (ReadyF.consL rfl (fun K hK=>?_) (ReadyF.consL rfl (fun K hK=>?_) ReadyF.nil))
    ·go_simp
     have G1:=zh ((Below.refl wr.heap.size wr).alloc (Nat.le_refl _) (.cells #[.string ⟨#[]⟩,.int .u32 0,.slice none 0 0,.slice none 0 0,.int .i64 0,.string ⟨#[]⟩,.slice none 0 0,.slice none 0 0,.int .i64 0,.int .i64 0] obT)).drew
     have N1:=zh (Blk.new wr obT #[.string ⟨#[]⟩,.int .u32 0,.slice none 0 0,.slice none 0 0,.int .i64 0,.string ⟨#[]⟩,.slice none 0 0,.slice none 0 0,.int .i64 0,.int .i64 0]).drew
     refine hK.out _ _ (fun _=>HS.out _ G1.out) ?_
     clear hK K S0
     try simp only[Act.put,sAp,sA0,sAs]
     try rw[show wr.drew.heap.size=wr.heap.size from rfl]
     obtain⟨qo,e1⟩:∃ qo,qo=wr.heap.size:=⟨_,rfl⟩
     have L1:=zh (show qo<(wr.alloc (.cells #[.string ⟨#[]⟩,.int .u32 0,.slice none 0 0,.slice none 0 0,.int .i64 0,.string ⟨#[]⟩,.slice none 0 0,.slice none 0 0,.int .i64 0,.int .i64 0] obT)).drew.heap.size by rw[e1];exact N1.out.lt)
     have U1:=zh (show wr.heap.size≤qo by rw[e1];exact Nat.le_refl _)
     rw[← e1] at N1 ⊢
     clear e1
     generalize (wr.alloc (.cells #[.string ⟨#[]⟩,.int .u32 0,.slice none 0 0,.slice none 0 0,.int .i64 0,.string ⟨#[]⟩,.slice none 0 0,.slice none 0 0,.int .i64 0,.int .i64 0] obT)).drew=v1 at *
     refine hfRdy 12 (by kernel_rfl) rfl fun K hK=>?_
     go_simp
     have G2:=zh (G1.out.alloc G1.out.size (.cells #[.string ⟨#[]⟩,.int .u32 0,.int .i64 0,.int .i64 0,.int .i64 0,.int .i64 0] plT))
     have N2:=zh (N1.out.alloc (.cells #[.string ⟨#[]⟩,.int .u32 0,.int .i64 0,.int .i64 0,.int .i64 0,.int .i64 0] plT))
     have M2:=zh (Blk.new v1 plT #[.string ⟨#[]⟩,.int .u32 0,.int .i64 0,.int .i64 0,.int .i64 0,.int .i64 0])
     have hne:=zh (show qo≠v1.heap.size from Nat.ne_of_lt L1.out)
     have U2:=zh (show wr.heap.size≤v1.heap.size from G1.out.size)
     refine hK.out _ _ (fun _=>HS.out _ G2.out) ?_
     clear hK K N1 L1 G1
     try simp only[Act.put,sAp,sA0,sAs]
     generalize v1.heap.size=qp at *
     generalize v1.alloc (.cells #[.string ⟨#[]⟩,.int .u32 0,.int .i64 0,.int .i64 0,.int .i64 0,.int .i64 0] plT)=v2 at *
     have Bo:Hid (Blk v2 qo obT #[.string ⟨#[]⟩,.int .u32 0,.slice none 0 0,.slice none 0 0,.int .i64 0,.string ⟨#[]⟩,.slice none 0 0,.slice none 0 0,.int .i64 0,.int .i64 0]):=N2
     have Bp:Hid (Blk v2 qp plT #[.string ⟨#[]⟩,.int .u32 0,.int .i64 0,.int .i64 0,.int .i64 0,.int .i64 0]):=M2
     have Hne:Hid (qo≠qp):=hne
     have Uo:Hid (wr.heap.size≤qo):=U1
     have Up:Hid (wr.heap.size≤qp):=U2
     clear N2 M2 hne U1 U2
     refine hfRdy 13 (by kernel_rfl) rfl fun K hK=>?_
     refine step_store_row rfl obT (.tmp 10) (.tmp 41) rfl qo (obCells x (.slice AU x.uses.length cU) (.slice AD x.descs.length cD) (.slice AC x.code.length cC) (.slice AE x.entries.length cE)) rfl rfl obT #[.string ⟨#[]⟩,.int .u32 0,.slice none 0 0,.slice none 0 0,.int .i64 0,.string ⟨#[]⟩,.slice none 0 0,.slice none 0 0,.int .i64 0,.int .i64 0] Bo.out (by kernel_rfl) rfl Oc.out ?_
     have G3:=zh (below_setRow G2.out Uo.out (obCells x (.slice AU x.uses.length cU) (.slice AD x.descs.length cD) (.slice AC x.code.length cC) (.slice AE x.entries.length cE)))
     have Co:=zh (show Blk (v2.setRow qo (obCells x (.slice AU x.uses.length cU) (.slice AD x.descs.length cD) (.slice AC x.code.length cC) (.slice AE x.entries.length cE))) qo obT (obCells x (.slice AU x.uses.length cU) (.slice AD x.descs.length cD) (.slice AC x.code.length cC) (.slice AE x.entries.length cE)) from setRow_heap _ _ _ _ _ _ Bo.out)
     have Cp:=zh (show Blk (v2.setRow qo (obCells x (.slice AU x.uses.length cU) (.slice AD x.descs.length cD) (.slice AC x.code.length cC) (.slice AE x.entries.length cE))) qp plT #[.string ⟨#[]⟩,.int .u32 0,.int .i64 0,.int .i64 0,.int .i64 0,.int .i64 0] from (setRow_other _ _ _ _ (Ne.symm Hne.out)).trans Bp.out)
     refine hK.out _ _ (fun _=>HS.out _ G3.out) ?_
     clear hK K G2 Bo Bp
     try simp only[Act.put,sAp,sA0,sAs]
     generalize v2.setRow qo (obCells x (.slice AU x.uses.length cU) (.slice AD x.descs.length cD) (.slice AC x.code.length cC) (.slice AE x.entries.length cE))=v3 at *
     refine hfRdy 14 (by kernel_rfl) rfl fun K hK=>?_
     refine step_store_row rfl plT (.tmp 11) (.tmp 45) rfl qp (plCells x pl) rfl rfl plT #[.string ⟨#[]⟩,.int .u32 0,.int .i64 0,.int .i64 0,.int .i64 0,.int .i64 0] Cp.out (by kernel_rfl) rfl (pl_one x pl) ?_
     have G4:=zh (below_setRow G3.out Up.out (plCells x pl))
     have Dp:=zh (show Blk (v3.setRow qp (plCells x pl)) qp plT (plCells x pl) from setRow_heap _ _ _ _ _ _ Cp.out)
     have Do:=zh (show Blk (v3.setRow qp (plCells x pl)) qo obT (obCells x (.slice AU x.uses.length cU) (.slice AD x.descs.length cD) (.slice AC x.code.length cC) (.slice AE x.entries.length cE)) from (setRow_other _ _ _ _ Hne.out).trans Co.out)
     refine hK.out _ _ (fun h=>absurd rfl h) ?_
     clear hK K G3 Co Cp
     try simp only[Act.put,sAp,sA0,sAs]
     generalize v3.setRow qp (plCells x pl)=v4 at *
     refine wpAnyF_done (by kernel_rfl) ?_ _
     go_wp2_with fail
     go_meet
     exact⟨qo,qp,rfl,rfl,zh ⟨Do.out,Dp.out,Uo.out,Up.out,G4.out⟩⟩
    ·go_simp
     have G1:=zh ((Below.refl wr.heap.size wr).alloc (Nat.le_refl _) (.cells #[.string ⟨#[]⟩,.int .u32 0,.int .i64 0,.int .i64 0,.int .i64 0,.int .i64 0] plT)).drew
     have N1:=zh (Blk.new wr plT #[.string ⟨#[]⟩,.int .u32 0,.int .i64 0,.int .i64 0,.int .i64 0,.int .i64 0]).drew
     refine hK.out _ _ (fun _=>HS.out _ G1.out) ?_
     clear hK K S0
     try simp only[Act.put,sAp,sA0,sAs]
     try rw[show wr.drew.heap.size=wr.heap.size from rfl]
     obtain⟨qp,e1⟩:∃ qp,qp=wr.heap.size:=⟨_,rfl⟩
     have L1:=zh (show qp<(wr.alloc (.cells #[.string ⟨#[]⟩,.int .u32 0,.int .i64 0,.int .i64 0,.int .i64 0,.int .i64 0] plT)).drew.heap.size by rw[e1];exact N1.out.lt)
     have U1:=zh (show wr.heap.size≤qp by rw[e1];exact Nat.le_refl _)
     rw[← e1] at N1 ⊢
     clear e1
     generalize (wr.alloc (.cells #[.string ⟨#[]⟩,.int .u32 0,.int .i64 0,.int .i64 0,.int .i64 0,.int .i64 0] plT)).drew=v1 at *
     refine hfRdy 11 (by kernel_rfl) rfl fun K hK=>?_
     go_simp
     have G2:=zh (G1.out.alloc G1.out.size (.cells #[.string ⟨#[]⟩,.int .u32 0,.slice none 0 0,.slice none 0 0,.int .i64 0,.string ⟨#[]⟩,.slice none 0 0,.slice none 0 0,.int .i64 0,.int .i64 0] obT))
     have N2:=zh (N1.out.alloc (.cells #[.string ⟨#[]⟩,.int .u32 0,.slice none 0 0,.slice none 0 0,.int .i64 0,.string ⟨#[]⟩,.slice none 0 0,.slice none 0 0,.int .i64 0,.int .i64 0] obT))
     have M2:=zh (Blk.new v1 obT #[.string ⟨#[]⟩,.int .u32 0,.slice none 0 0,.slice none 0 0,.int .i64 0,.string ⟨#[]⟩,.slice none 0 0,.slice none 0 0,.int .i64 0,.int .i64 0])
     have hne:=zh (show qp≠v1.heap.size from Nat.ne_of_lt L1.out)
     have U2:=zh (show wr.heap.size≤v1.heap.size from G1.out.size)
     refine hK.out _ _ (fun _=>HS.out _ G2.out) ?_
     clear hK K N1 L1 G1
     try simp only[Act.put,sAp,sA0,sAs]
     generalize v1.heap.size=qo at *
     generalize v1.alloc (.cells #[.string ⟨#[]⟩,.int .u32 0,.slice none 0 0,.slice none 0 0,.int .i64 0,.string ⟨#[]⟩,.slice none 0 0,.slice none 0 0,.int .i64 0,.int .i64 0] obT)=v2 at *
     have Bo:Hid (Blk v2 qo obT #[.string ⟨#[]⟩,.int .u32 0,.slice none 0 0,.slice none 0 0,.int .i64 0,.string ⟨#[]⟩,.slice none 0 0,.slice none 0 0,.int .i64 0,.int .i64 0]):=M2
     have Bp:Hid (Blk v2 qp plT #[.string ⟨#[]⟩,.int .u32 0,.int .i64 0,.int .i64 0,.int .i64 0,.int .i64 0]):=N2
     have Hne:Hid (qo≠qp):=zh (Ne.symm hne.out)
     have Uo:Hid (wr.heap.size≤qo):=U2
     have Up:Hid (wr.heap.size≤qp):=U1
     clear N2 M2 hne U1 U2
     refine hfRdy 13 (by kernel_rfl) rfl fun K hK=>?_
     refine step_store_row rfl obT (.tmp 10) (.tmp 41) rfl qo (obCells x (.slice AU x.uses.length cU) (.slice AD x.descs.length cD) (.slice AC x.code.length cC) (.slice AE x.entries.length cE)) rfl rfl obT #[.string ⟨#[]⟩,.int .u32 0,.slice none 0 0,.slice none 0 0,.int .i64 0,.string ⟨#[]⟩,.slice none 0 0,.slice none 0 0,.int .i64 0,.int .i64 0] Bo.out (by kernel_rfl) rfl Oc.out ?_
     have G3:=zh (below_setRow G2.out Uo.out (obCells x (.slice AU x.uses.length cU) (.slice AD x.descs.length cD) (.slice AC x.code.length cC) (.slice AE x.entries.length cE)))
     have Co:=zh (show Blk (v2.setRow qo (obCells x (.slice AU x.uses.length cU) (.slice AD x.descs.length cD) (.slice AC x.code.length cC) (.slice AE x.entries.length cE))) qo obT (obCells x (.slice AU x.uses.length cU) (.slice AD x.descs.length cD) (.slice AC x.code.length cC) (.slice AE x.entries.length cE)) from setRow_heap _ _ _ _ _ _ Bo.out)
     have Cp:=zh (show Blk (v2.setRow qo (obCells x (.slice AU x.uses.length cU) (.slice AD x.descs.length cD) (.slice AC x.code.length cC) (.slice AE x.entries.length cE))) qp plT #[.string ⟨#[]⟩,.int .u32 0,.int .i64 0,.int .i64 0,.int .i64 0,.int .i64 0] from (setRow_other _ _ _ _ (Ne.symm Hne.out)).trans Bp.out)
     refine hK.out _ _ (fun _=>HS.out _ G3.out) ?_
     clear hK K G2 Bo Bp
     try simp only[Act.put,sAp,sA0,sAs]
     generalize v2.setRow qo (obCells x (.slice AU x.uses.length cU) (.slice AD x.descs.length cD) (.slice AC x.code.length cC) (.slice AE x.entries.length cE))=v3 at *
     refine hfRdy 14 (by kernel_rfl) rfl fun K hK=>?_
     refine step_store_row rfl plT (.tmp 11) (.tmp 45) rfl qp (plCells x pl) rfl rfl plT #[.string ⟨#[]⟩,.int .u32 0,.int .i64 0,.int .i64 0,.int .i64 0,.int .i64 0] Cp.out (by kernel_rfl) rfl (pl_one x pl) ?_
     have G4:=zh (below_setRow G3.out Up.out (plCells x pl))
     have Dp:=zh (show Blk (v3.setRow qp (plCells x pl)) qp plT (plCells x pl) from setRow_heap _ _ _ _ _ _ Cp.out)
     have Do:=zh (show Blk (v3.setRow qp (plCells x pl)) qo obT (obCells x (.slice AU x.uses.length cU) (.slice AD x.descs.length cD) (.slice AC x.code.length cC) (.slice AE x.entries.length cE)) from (setRow_other _ _ _ _ Hne.out).trans Co.out)
     refine hK.out _ _ (fun h=>absurd rfl h) ?_
     clear hK K G3 Co Cp
     try simp only[Act.put,sAp,sA0,sAs]
     generalize v3.setRow qp (plCells x pl)=v4 at *
     refine wpAnyF_done (by kernel_rfl) ?_ _
     go_wp2_with fail
     go_meet
     exact⟨qo,qp,rfl,rfl,zh ⟨Do.out,Dp.out,Uo.out,Up.out,G4.out⟩⟩
   case rest=>
    obtain⟨qo,qp,rfl,rfl,hC⟩:=hcut
    obtain⟨Co,Cp,Uo,Up,hBc⟩:=hC.out
    have hwr:=hbw1.out.size
    have hmap2:Hid (lkMap wc w.heap.size N0 D0):=zh (lkMap_below hmap1.out hBc)
    have hbw2:=zh (hbw1.out.trans (hBc.mono hwr))
    have n7:=Co.cell 7
    simp only[obCells,gAr,gC0,gCs] at n7
    have hCo:=zh Co
    have hCp:=zh Cp
    have hbm:w.heap.size<qo∧w.heap.size<qp:=by have:=(lkMap_lt hmap1.out);omega
    clear Co Cp hBc hC HS hmap1 hbw1 Uo Up hTS Oc
    generalize wc=wa at *
    go_wp2_with fail
    go_loopw [49] (fun qv wr=>∃ q:Nat,qv=.int .i64 q∧q≤x.entries.length∧Hid (∃ N,N≤12480*k+2*q∧lkMap wr w.heap.size N (iter fE D0 q)∧Below w.heap.size w wr∧Kept (fun p=>p<wa.heap.size∧p≠w.heap.size) wa wr)) (fun qv _=>64-(intOf qv).toNat)
    case atStart=>exact⟨0,rfl,by omega,zh ⟨N0,by have:=hN0.out;omega,hmap2.out,hbw2.out,Kept.refl _ _⟩⟩
    case round=>
     obtain⟨q,rfl,hq,hI⟩:=hrel
     obtain⟨N1,hN1,hm1,hb1,hk1⟩:=hI.out
     clear hI
     by_cases hlt2:(q:Int)<(x.entries.length:Int)
     ·have hql:q<x.entries.length:=by omega
      obtain⟨-,A1,c1,e1,hc⟩:=hent.out.below hb1
      injection e1 with e1 _ e2
      subst e1 e2
      obtain⟨ad,rfl,had,hy⟩:=hc q hql
      have hyb:=f8.out (x.entries.getD q 0) (by rw[List.getD_eq_getElem?_getD,List.getElem?_eq_getElem hql];exact List.getElem_mem hql)
      have hE:=hE1.out q (iter fE D0 q)
      have hnx:Hid (iter fE D0 (q+1)=fE q (iter fE D0 q)):=zh rfl
      rw[hE] at hnx
      generalize x.entries.getD q 0=y at *
      generalize iter fE D0 q=E at *
      have k0:=zh (keyOf_pkey (a:=0) (b:=k) (c:=q) in64_zero (in64_of (by omega) (by omega)) (in64_of (by omega) (by omega)))
      have k2:=zh (keyOf_pkey (a:=2) (b:=k) (c:=q) (in64_of (by decide) (by decide)) (in64_of (by omega) (by omega)) (in64_of (by omega) (by omega)))
      have hw1:wrap64 (pl.code+y)=pl.code+y:=by unfold wrap64;omega
      have hw0:IntKind.i64.wrap (pl.code+y)=pl.code+y:=by rw[IntKind.wrap_i64];omega
      have i3:In64 (pl.code+y):=in64_of (by omega) (by omega)
      have hq5:=(hCp.out.kept hk1 ⟨hCp.out.lt,by omega⟩)
      have x5:=hq5.cell 5
      simp only[plCells,gAr,gC0,gCs] at x5
      have hq5:=zh hq5
      have hm1:=zh hm1
      have hb1:=zh hb1
      have hk1:=zh hk1
      have i3:=zh i3
      have hqb:w.heap.size≠qp:=by omega
      clear hc hE had
      go_upto_region 10 with fail
      refine wp_region_F (fun w'=>w'.cell? ⟨qp,5,none⟩=some (.int .i64 pl.code)) 17 (by kernel_rfl) ?_
      have S0:wr.drew.cell? ⟨qp,5,none⟩=some (.int .i64 pl.code):=x5
      refine hfTake 0 (v:=?_) ?_ S0 ?_
      rotate_left
      ·(intro _ h;(try dsimp only at h);go_simp<;>with_reducible rfl)
      try simp only[Act.put,sAp,sA0,sAs]
      refine hfTake 1 (v:=?_) ?_ S0 ?_
      rotate_left
      ·(intro _ h;(try dsimp only at h);go_simp<;>with_reducible rfl)
      try simp only[Act.put,sAp,sA0,sAs]
      refine hfTake 2 (v:=?_) ?_ S0 ?_
      rotate_left
      ·(intro _ h;(try dsimp only at h);go_simp<;>with_reducible rfl)
      try simp only[Act.put,sAp,sA0,sAs]
      refine hfTake 3 (v:=?_) ?_ S0 ?_
      rotate_left
      ·(intro _ h;(try dsimp only at h);go_simp<;>with_reducible rfl)
      try simp only[Act.put,sAp,sA0,sAs]
      refine hfTake 4 (v:=?_) ?_ S0 ?_
      rotate_left
      ·(intro _ h;(try dsimp only at h);go_simp<;>with_reducible rfl)
      try simp only[Act.put,sAp,sA0,sAs]
      refine hfTake 5 (v:=?_) ?_ S0 ?_
      rotate_left
      ·(intro _ h;(try dsimp only at h);go_simp<;>with_reducible rfl)
      try simp only[Act.put,sAp,sA0,sAs]
      refine hfTake 6 (v:=?_) ?_ S0 ?_
      rotate_left
      ·(intro _ h;(try dsimp only at h);go_simp<;>with_reducible rfl)
      try simp only[Act.put,sAp,sA0,sAs]
      refine hfTake 7 (v:=?_) ?_ S0 ?_
      rotate_left
      ·(intro _ h;(try dsimp only at h);go_simp<;>with_reducible rfl)
      try simp only[Act.put,sAp,sA0,sAs]
      refine hfTake 8 (v:=?_) ?_ S0 ?_
      rotate_left
      ·(intro _ h;(try dsimp only at h);go_simp<;>with_reducible rfl)
      try simp only[Act.put,sAp,sA0,sAs]
      refine hfTake 9 (v:=?_) ?_ S0 ?_
      rotate_left
      ·(intro _ h;(try dsimp only at h);go_simp<;>with_reducible rfl)
      try simp only[Act.put,sAp,sA0,sAs]
      refine hfTake 10 (v:=?_) ?_ S0 ?_
      rotate_left
      ·(intro _ h;(try dsimp only at h);go_simp<;>with_reducible rfl)
      try simp only[Act.put,sAp,sA0,sAs]
      refine hfTake 11 (v:=?_) ?_ S0 ?_
      rotate_left
      ·(intro _ h;(try dsimp only at h);go_simp<;>with_reducible rfl)
      try simp only[Act.put,sAp,sA0,sAs]
      refine hfTake 12 (v:=?_) ?_ S0 ?_
      rotate_left
      ·(intro _ h;(try dsimp only at h);go_simp<;>with_reducible rfl)
      try simp only[Act.put,sAp,sA0,sAs]
      refine hfTake 13 (v:=?_) ?_ S0 ?_
      rotate_left
      ·(intro _ h;(try dsimp only at h);go_simp<;>with_reducible rfl)
      try simp only[Act.put,sAp,sA0,sAs]
      refine hfTake 14 (v:=?_) ?_ S0 ?_
      rotate_left
      ·(intro _ h;(try dsimp only at h);go_simp<;>with_reducible rfl)
      try simp only[Act.put,sAp,sA0,sAs]
      refine hfTake 15 (v:=?_) ?_ S0 ?_
      rotate_left
      ·(intro _ h;(try dsimp only at h);go_simp<;>with_reducible rfl)
      try simp only[Act.put,sAp,sA0,sAs]
      refine hfRdy 16 (by kernel_rfl) rfl fun K hK=>?_
      refine step_mapUpdate_own wr.drew rfl (.tmp 54) (.tmp 57) (.tmp 65) 154 rfl 205 3 pKeyed Tryz.underlying154 (plainElem Tryz.prog 3) w.heap.size N1 E rfl hm1.out.drew (by simp only[maxLen];omega) _ _ (pkey 0 k q) rfl rfl k0.out (pnum (pl.code+y)) [] (plainElem_int Tryz.underlying3 (wf64 i3.out)) ?_
      intro w2 hm2 hg2
      have hq6:=hq5.out.drew.grown hg2 (by intro e;exact hqb (Option.some.inj e).symm)
      have x6:=hq6.cell 5
      simp only[plCells,gAr,gC0,gCs] at x6
      have hb2:=zh (Below.grown hb1.out.drew hg2 hb1.out.size (fun q hq=>by have:=Option.some.inj hq;omega))
      have hk2:=zh (Kept.grown hk1.out.drew hg2 (fun j hj=>Nat.lt_of_lt_of_le hj.1 hk1.out.size) (fun q hq hS=>hS.2 (Option.some.inj hq).symm))
      have hm2:=zh hm2
      have hq6:=zh hq6
      refine hK.out _ _ (fun _=>x6) ?_
      clear hK K S0 hg2 x5 hq5 hm1 hb1 hk1
      try simp only[Act.put,sAp,sA0,sAs]
      refine hfRdy 17 (by kernel_rfl) rfl fun K hK=>?_
      refine step_mapUpdate_own w2 rfl (.tmp 58) (.tmp 61) (.tmp 69) 154 rfl 205 3 pKeyed Tryz.underlying154 (plainElem Tryz.prog 3) w.heap.size (N1+1) (E.put (pkey 0 k q) (pnum (pl.code+y))) rfl hm2.out (by simp only[maxLen];omega) _ _ (pkey 2 k q) rfl rfl k2.out (pnum (pl.code+y)) [] (plainElem_int Tryz.underlying3 (wf64 i3.out)) ?_
      intro w3 hm3 hg3
      have hb3:=zh (Below.grown hb2.out hg3 hb2.out.size (fun q hq=>by have:=Option.some.inj hq;omega))
      have hk3:=zh (Kept.grown hk2.out hg3 (fun j hj=>Nat.lt_of_lt_of_le hj.1 hk2.out.size) (fun q hq hS=>hS.2 (Option.some.inj hq).symm))
      rw[← hnx.out] at hm3
      have hm3:=zh hm3
      refine hK.out _ _ (fun h=>absurd rfl h) ?_
      clear hK K hg3 hm2 hb2 hk2 hq6 x6 k0 k2 i3 hw1 hw0 hyb hy
      try simp only[Act.put,sAp,sA0,sAs]
      refine wpAnyF_done (by kernel_rfl) ?_ _
      go_wp2_with fail
      exact⟨⟨q+1,by go_num,by omega,zh ⟨N1+1+1,by omega,hm3.out,hb3.out,hk3.out⟩⟩,by simp[intOf];omega⟩
     ·obtain rfl:q=x.entries.length:=by omega
      generalize hD1:iter fE D0 x.entries.length=D1 at *
      have n3:=(hCo.out.kept hk1 ⟨hCo.out.lt,by omega⟩).cell 3
      simp only[obCells,gAr,gC0,gCs] at n3
      have hN1b:N1≤12480*k+128:=by omega
      have hm1:=zh hm1
      have hb1:=zh hb1
      have hk1:=zh hk1
      clear hD1 n7 hent hE1 f8 hmap2 hN1 hlt2 hq hN0
      generalize wr=wb at *
      go_wp2_with fail
      clear n3
      go_loopw [74] (fun qv wr=>∃ q:Nat,qv=.int .i64 q∧q≤x.descs.length∧Hid (∃ N,N≤12480*k+128+q∧lkMap wr w.heap.size N (iter fD D1 q)∧Below w.heap.size w wr∧Kept (fun p=>p<wa.heap.size∧p≠w.heap.size) wa wr)) (fun qv _=>64-(intOf qv).toNat)
      case atStart=>exact⟨0,rfl,by omega,zh ⟨N1,by omega,hm1.out,hb1.out,hk1.out⟩⟩
      case round=>
       clear hm1 hb1 hk1 hN1b
       obtain⟨q,rfl,hq,hI⟩:=hrel
       obtain⟨N2,hN2,hm2,hb2,hk2⟩:=hI.out
       clear hI
       by_cases hlt3:(q:Int)<(x.descs.length:Int)
       ·have hE:=hE2.out q (iter fD D1 q)
        have hnx:Hid (iter fD D1 (q+1)=fD q (iter fD D1 q)):=zh rfl
        rw[hE] at hnx
        generalize iter fD D1 q=E at *
        have k0:=zh (keyOf_pkey (a:=3) (b:=k) (c:=q) (in64_of (by decide) (by decide)) (in64_of (by omega) (by omega)) (in64_of (by omega) (by omega)))
        have hw1:wrap64 (6*(q:Int))=6*q:=by unfold wrap64;omega
        have hw2:wrap64 (pl.descs+6*(q:Int))=pl.descs+6*q:=by unfold wrap64;omega
        have i3:=zh (show In64 (pl.descs+6*(q:Int)) from in64_of (by omega) (by omega))
        have x5:=(hCp.out.kept hk2 ⟨hCp.out.lt,by omega⟩).cell 2
        simp only[plCells,gAr,gC0,gCs] at x5
        have hm2:=zh hm2
        have hb2:=zh hb2
        have hk2:=zh hk2
        clear hE
        go_wp2_with (at_mapUpdate;go_loud (refine wpList_mapUpdate_own _ rfl (.tmp 77) (.tmp 80) (.tmp 85) 154 rfl 205 3 pKeyed Tryz.underlying154 (plainElem Tryz.prog 3) w.heap.size N2 E rfl hm2.out (by simp only[maxLen];omega) _ _ (pkey 3 k q) rfl rfl k0.out (pnum (pl.descs+6*(q:Int))) [] (plainElem_int Tryz.underlying3 (wf64 i3.out)) ?_);intro w3 hm3 hg3;have hg3:=zh hg3;have hm3:=zh hm3)
        have hb3:=Below.grown hb2.out hg3.out hb2.out.size (fun q hq=>by have:=Option.some.inj hq;omega)
        have hk3:=Kept.grown hk2.out hg3.out (fun j hj=>Nat.lt_of_lt_of_le hj.1 hk2.out.size) (fun q hq hS=>hS.2 (Option.some.inj hq).symm)
        have hm4:=hm3.out
        rw[← hnx.out] at hm4
        exact⟨⟨q+1,by go_num,by omega,zh ⟨N2+1,by omega,hm4,hb3,hk3⟩⟩,by simp[intOf];omega⟩
       ·obtain rfl:q=x.descs.length:=by omega
        generalize hD2:iter fD D1 x.descs.length=D2 at *
        have hBo:=hCo.out.kept hk2 ⟨hCo.out.lt,by omega⟩
        have n4:=hBo.cell 4
        have n5:=hBo.cell 5
        simp only[obCells,gAr,gC0,gCs] at n4 n5
        have hN2b:N2≤12480*k+192:=by omega
        have hm2:=zh hm2
        have hb2:=zh hb2
        have hk2:=zh hk2
        have hss:=txt_size x.strings
        clear hD2 hBo hE2 hN2 hlt3 hq
        generalize wr=wb at *
        go_upto_if 90 with fail
        go_cut [15] from 89 to 96 (fun r wx=>r=.int .i64 dn∧wx=wb)
        case first=>
         have hdd:=hdn.out
         by_cases hk0:k=0
         ·subst hk0
          rw[if_pos rfl] at hdd
          have hdh:=zh hdd
          clear hdd
          go_wp2_with fail
          go_meet
          exact⟨by rw[hdh.out],rfl⟩
         ·rw[if_neg hk0] at hdd
          have hdh:=zh hdd
          have hk1:((k:Int)==0)=false:=by rw[beq_eq_false_iff_ne];omega
          clear hdd
          go_wp2_with fail
          go_meet
          exact⟨by rw[hdh.out];simp,rfl⟩
        case rest=>
         obtain⟨rfl,rfl⟩:=hcut
         clear n4 n5 hss hdn
         go_wp2_with fail
         go_loopw [98] (fun qv wr=>∃ q:Nat,qv=.int .i64 q∧q≤dn∧Hid (∃ N,N≤12480*k+192+q∧lkMap wr w.heap.size N (iter fT D2 q)∧Below w.heap.size w wr∧Kept (fun p=>p<wa.heap.size∧p≠w.heap.size) wa wr)) (fun qv _=>12288-(intOf qv).toNat)
         case atStart=>exact⟨0,rfl,by omega,zh ⟨N2,by omega,hm2.out,hb2.out,hk2.out⟩⟩
         case round=>
          clear hm2 hb2 hk2 hN2b
          obtain⟨q,rfl,hq,hI⟩:=hrel
          obtain⟨N3,hN3,hm3,hb3,hk3⟩:=hI.out
          clear hI
          by_cases hlt4:(q:Int)<(dn:Int)
          ·have hE:=hE3.out q (iter fT D2 q)
           have hnx:Hid (iter fT D2 (q+1)=fT q (iter fT D2 q)):=zh rfl
           rw[hE] at hnx
           generalize iter fT D2 q=E at *
           have k0:=zh (keyOf_pkey (a:=1) (b:=k) (c:=q) (in64_of (by decide) (by decide)) (in64_of (by omega) (by omega)) (in64_of (by omega) (by omega)))
           have hw2:wrap64 (pl.data+(q:Int))=pl.data+q:=by unfold wrap64;omega
           have i3:=zh (show In64 (pl.data+(q:Int)) from in64_of (by omega) (by omega))
           have x5:=(hCp.out.kept hk3 ⟨hCp.out.lt,by omega⟩).cell 3
           simp only[plCells,gAr,gC0,gCs] at x5
           have hm3:=zh hm3
           have hb3:=zh hb3
           have hk3:=zh hk3
           clear hE
           go_wp2_with (at_mapUpdate;go_loud (refine wpList_mapUpdate_own _ rfl (.tmp 101) (.tmp 104) (.tmp 108) 154 rfl 205 3 pKeyed Tryz.underlying154 (plainElem Tryz.prog 3) w.heap.size N3 E rfl hm3.out (by simp only[maxLen];omega) _ _ (pkey 1 k q) rfl rfl k0.out (pnum (pl.data+(q:Int))) [] (plainElem_int Tryz.underlying3 (wf64 i3.out)) ?_);intro w4 hm4 hg4;have hg4:=zh hg4;have hm4:=zh hm4)
           have hb4:=Below.grown hb3.out hg4.out hb3.out.size (fun q hq=>by have:=Option.some.inj hq;omega)
           have hk4:=Kept.grown hk3.out hg4.out (fun j hj=>Nat.lt_of_lt_of_le hj.1 hk3.out.size) (fun q hq hS=>hS.2 (Option.some.inj hq).symm)
           have hm5:=hm4.out
           rw[← hnx.out] at hm5
           exact⟨⟨q+1,by go_num,by omega,zh ⟨N3+1,by omega,hm5,hb4,hk4⟩⟩,by simp[intOf];omega⟩
          ·obtain rfl:q=dn:=by omega
           rw[← hmd.out] at hm3
           have hm3:=zh hm3
           have hb3:=zh hb3
           clear hk3
           go_wp2_with fail
           exact⟨⟨k+1,by go_num,by omega,zh ⟨N3,by omega,hm3.out,hb3.out⟩⟩,by simp[intOf];omega⟩
  ·obtain rfl:k=ul+1:=by omega
   obtain⟨N0,hN0,hmap,hbw⟩:=hI.out
   rw[← hlk.out] at hmap
   have hmap:=zh hmap
   have hbw:=zh hbw
   clear hI hN0
   go_wp2_with fail
   go_ret
   exact⟨_,N0,rfl,hmap.out,hbw.out⟩
end Go.Proofs.YtceflhffilldeaaGreat
