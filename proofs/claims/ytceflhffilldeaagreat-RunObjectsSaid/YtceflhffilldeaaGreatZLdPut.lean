/-
  Joined: ZLdPut.
-/
import Derived.Test.YtceflhffilldeaaGreatZLdLk
set_option linter.unusedVariables false
set_option linter.unusedSimpArgs false
set_option maxRecDepth 100000
set_option maxHeartbeats 16000000
namespace Go.Proofs.YtceflhffilldeaaGreat
open Go.RowKit ObjL Ldr Go.Maps Go.WideMaps
def LWd (w:World) (g:Nat) (l:List Int):Prop:=Blk w g 37 (l.map (Value.int .u32)).toArray
section
variable {w w':World} {g:Nat} {l:List Int}
theorem LWd.cell (h:LWd w g l) (k:Nat) (hk:k<l.length):w.cell? ⟨g,k,none⟩=some (.int .u32 (l.getD k 0)):=by
 rw[Blk.cell h k]
 simp[hk,List.getD]
theorem LWd.frozen (h:LWd w g l) (k:Nat):w.frozen? ⟨g,k,none⟩=false:=Blk.frozen h k
theorem LWd.lt (h:LWd w g l):g<w.heap.size:=Blk.lt h
theorem LWd.set_ (h:LWd w g l) (k:Nat) (x:Int):LWd (w.setCell ⟨g,k,none⟩ (.int .u32 x)) g (l.set k x):=by
 have h2:=Blk.set_ h k (.int .u32 x)
 unfold LWd
 rw[show ((l.set k x).map (Value.int .u32)).toArray=((l.map (Value.int .u32)).toArray).setIfInBounds k (.int .u32 x) by rw[List.setIfInBounds_toArray,List.map_set]]
 exact h2
theorem LWd.alloc (h:LWd w g l) (o:Obj):LWd (w.alloc o) g l:=Blk.alloc h o
theorem LWd.kept {S:Nat→Prop} (h:LWd w g l) (hk:Kept S w w') (hg:S g):LWd w' g l:=Blk.kept h hk hg
theorem LWd.below (h:LWd w g l) (hb:Below w.heap.size w w'):LWd w' g l:=Blk.below h hb h.lt
theorem LWd.drew (h:LWd w g l):LWd w.drew g l:=h
end
theorem steps_stop {α:Type} {f:Nat→α→Except Int α} {a b:α} {e:Int} {k n:Nat} (h:steps f a k=.ok b) (he:f k b=.error e) (hk:k<n):steps f a n=.error e:=
 steps_fail (k:=k+1) (by rw[steps_succ h,he]) n hk
theorem put_dfail {m:Im} {i:Nat} {ws:List Int} {e:Int} (h:steps (m.putDesc i) ws (m.ob i).descs.length=.error e):m.put i ws=.error e:=by unfold Im.put;rw[h]
theorem put_cfail {m:Im} {i:Nat} {ws w1:List Int} {e:Int} (h:steps (m.putDesc i) ws (m.ob i).descs.length=.ok w1) (hc:m.code i=.error e):m.put i ws=.error e:=by unfold Im.put;rw[h,hc]
theorem put_done {m:Im} {i:Nat} {ws w1 c:List Int} (h:steps (m.putDesc i) ws (m.ob i).descs.length=.ok w1) (hc:m.code i=.ok c):m.put i ws=.ok (copyAt (iter (m.putStr i) w1 (m.ob i).strings.length) (m.pl i).code.toNat c):=by unfold Im.put;rw[h,hc]
theorem code_first {m:Im} {i:Nat} {e:Int} (h:m.fillC i (m.ob i).code (m.ob i).calls=.error e):m.code i=.error e:=by unfold Im.code;rw[h]
theorem code_second {m:Im} {i:Nat} {c:List Int} (h:m.fillC i (m.ob i).code (m.ob i).calls=.ok c):m.code i=m.fillC i c (m.ob i).places:=by unfold Im.code;rw[h]
def PutEnd (w:World) (gw:Nat) (r:Except Int (List Int)) (e:Ending) (w':World):Prop:=
 match r with
 | .error c=>e=faultE c∧Kept (fun p=>p<w.heap.size∧p≠gw) w w'
 | .ok ws'=>e=.returned (.tuple #[])∧LWd w' gw ws'∧Kept (fun p=>p<w.heap.size∧p≠gw) w w'
theorem PutEnd.no {w w':World} {gw:Nat} {r:Except Int (List Int)} {c:Int} (h:r=.error c) (hk:Kept (fun p=>p<w.heap.size∧p≠gw) w w'):PutEnd w gw r (faultE c) w':=by rw[h];exact⟨rfl,hk⟩
theorem PutEnd.yes {w w':World} {gw:Nat} {r:Except Int (List Int)} {ws':List Int} (h:r=.ok ws') (h2:LWd w' gw ws') (hk:Kept (fun p=>p<w.heap.size∧p≠gw) w w'):PutEnd w gw r (.returned (.tuple #[])) w':=by rw[h];exact⟨rfl,h2,hk⟩
end Go.Proofs.YtceflhffilldeaaGreat
namespace Go.Proofs.YtceflhffilldeaaGreat
open Go.RowKit ObjL Ldr Go.Maps Go.WideMaps
theorem put_ok (B lp mb sp n:Nat) (D:DataW Unit) (vO:Value) (xs:List OM) (s:LS) (W1 w:World) (h:LdAt 0 0 B lp mb sp W1 n D vO xs s) (hm:s.im.Ok) (hB1:Below W1.heap.size W1 w) (gm cm gw:Nat) (hM:MRow w gm s.im) (ws:List Int) (hW:LWd w gw ws) (hgw:W1.heap.size≤gw) (hne:gm≠gw) (hl64:ws.length≤65536) (hend:s.im.end_≤ws.length) (i:Nat) (hi:i<xs.length) :
  Calls Tryz.prog 50 #[.pointer (some ⟨lp,0,none⟩),.slice (some ⟨gw,0,none⟩) ws.length ws.length,.slice (some ⟨gm,0,none⟩) xs.length cm,.int .i64 i] w (PutEnd w gw (s.im.put i ws)):=by
 have h2:=h.below hB1
 have hl1:1≤xs.length:=by omega
 have hxl:xs.length≤16:=by rw[← h.im_n];exact hm.few
 obtain⟨go,kk,rfl,hgo⟩:=h2.place (by omega)
 have hlpl:=h2.blk.lt
 have hgml:=hM.lt
 have hgwl:=hW.lt
 have hn:=zh h.im_n
 have hin:i<s.im.n:=by rw[hn.out];exact hi
 have hKB:Hid (∀ w',Kept (fun p=>p<w.heap.size∧p≠gw) w w'→Below W1.heap.size W1 w'):=zh fun w' hk=>hB1.trans (hk.to_below fun k hk=>⟨Nat.lt_of_lt_of_le hk hB1.size,by omega⟩)
 have hKM:Hid (∀ w',Kept (fun p=>p<w.heap.size∧p≠gw) w w'→MRow w' gm s.im):=zh fun w' hk=>⟨Nat.lt_of_lt_of_le hM.lt hk.size,fun j u hu=>(hk.cell (p:=⟨gm,0+j,none⟩) ⟨hM.lt,hne⟩).trans (hM.cells j u hu)⟩
 have hLA:Hid (∀ w',Kept (fun p=>p<w.heap.size∧p≠gw) w w'→LdAt 0 0 B lp mb sp w' n D (.slice (some ⟨go,0,none⟩) xs.length kk) xs s):=zh fun w' hk=>h.below (hKB.out w' hk)
 have hc3:Hid (∀ w',Kept (fun p=>p<w.heap.size∧p≠gw) w w'→w'.cell? ⟨lp,3,none⟩=some (.slice (some ⟨go,0,none⟩) xs.length kk)):=zh fun w' hk=>by
  have:=(hLA.out w' hk).blk.cell 3
  simpa using this
 have hobj:Hid (∀ j,j<s.im.n→∃ A c,∀ w',Kept (fun p=>p<w.heap.size∧p≠gw) w w'→w'.cell? ⟨go,j*10+3,none⟩=some (.slice A (s.im.ob j).descs.length c)):=zh fun j hj=>by
  have hjx:j<xs.length:=by rw[← hn.out];exact hj
  obtain⟨AU,cU,AD,cD,AC,cC,AE,cE,F⟩:=(h.oms xs[j] (List.getElem_mem hjx)).form
  refine⟨AD,cD,fun w' hk=>?_⟩
  have hr:=(hLA.out w' hk).range hjx
  rw[F.eq,← h.im_ob hjx] at hr
  have:=hr 3 _ rfl
  rw[h.im_ob hjx] at this ⊢
  exact this
 have hmod:Hid (∀ j,j<s.im.n→∀ w',Kept (fun p=>p<w.heap.size∧p≠gw) w w'→w'.cell? ⟨gm,j*6+2,none⟩=some (.int .i64 (s.im.pl j).descs)):=zh fun j hj w' hk=>(hKM.out w' hk).range hj 2 _ rfl
 have huse:Hid (∀ w',Kept (fun p=>p<w.heap.size∧p≠gw) w w'→∀ N:Int,0≤N→N≤(s.im.ob i).uses.length→Calls Tryz.prog 68 #[.pointer (some ⟨lp,0,none⟩),.int .i64 i,.int .i64 N] w' fun e w2=>e=.returned (.int .i64 (s.im.usedN i N))∧Kept (fun _=>True) w' w2):=zh fun w' hk N h0 h1=>by
  have:=used_ok B lp mb sp n D _ xs s w' (hLA.out w' hk) hm i hi N h0 h1
  rw[← (Im.usedN_lt hm hin h0 h1).2] at this
  exact this
 have hlks:Hid (∀ w',Kept (fun p=>p<w.heap.size∧p≠gw) w w'→Calls Tryz.prog 70 #[.pointer (some ⟨lp,0,none⟩),.slice (some ⟨gm,0,none⟩) xs.length cm,.int .i64 i] w' (LkEnd w' (s.im.links i))):=zh fun w' hk=>links_ok B lp mb sp n D _ xs s w' (hLA.out w' hk) hm gm cm (hKM.out w' hk) i hi
 have hjn:Hid (∀ N:Int,0≤N→N≤(s.im.ob i).uses.length→s.im.usedN i N<s.im.n):=zh fun N h0 h1=>(Im.usedN_lt hm hin h0 h1).1
 have hplb:Hid (∀ j,j<s.im.n→0≤(s.im.pl j).descs∧(s.im.pl j).descs≤400000∧(s.im.pl j).descs+6*(s.im.ob j).descs.length≤s.im.end_):=zh fun j hj=>by
  have hat:=Im.at_bd hm j (by omega)
  have hz:=code_in hm hj
  have hf:=hm.few
  obtain⟨p0,p1,p2,p3,-⟩:=Im.pl_ok (m:=s.im) j
  have:=(hm.fit hj).data
  omega
 obtain⟨AU,cU,AD,cD,AC,cC,AE,cE,F⟩:=(h.oms xs[i] (List.getElem_mem hi)).form
 have hrj:=h2.range hi
 rw[F.eq,← h.im_ob hi] at hrj
 have hdsc0:=F.descs
 have hcod0:=F.code
 rw[← h.im_ob hi] at hdsc0 hcod0
 have hMr:=hM.range hin
 have hTS:TwoS lp go gm i (.slice (some ⟨go,0,none⟩) xs.length kk) (obCells (s.im.ob i) (.slice AU (s.im.ob i).uses.length cU) (.slice AD (s.im.ob i).descs.length cD) (.slice AC (s.im.ob i).code.length cC) (.slice AE (s.im.ob i).entries.length cE)) (plCells (s.im.ob i) (s.im.pl i)) w:=⟨hc3.out w (Kept.refl _ _),hrj,hMr⟩
 have HS:Hid (∀ W',Below w.heap.size w W'→TwoS lp go gm i (.slice (some ⟨go,0,none⟩) xs.length kk) (obCells (s.im.ob i) (.slice AU (s.im.ob i).uses.length cU) (.slice AD (s.im.ob i).descs.length cD) (.slice AC (s.im.ob i).code.length cC) (.slice AE (s.im.ob i).entries.length cE)) (plCells (s.im.ob i) (s.im.pl i)) W'):=zh fun W' hb=>hTS.below hb hlpl hgo hgml
 have c3:=hc3.out w (Kept.refl _ _)
 have hfit:=hm.fit hin
 have hpk:=Im.pl_ok (m:=s.im) i
 have hz:=code_in hm hin
 have hplb0:=hplb.out i hin
 have hbound:=Im.at_bd hm i (by omega)
 have hDf:Hid (∀ e,steps (s.im.putDesc i) ws (s.im.ob i).descs.length=.error e→s.im.put i ws=.error e):=zh fun e he=>put_dfail he
 have hCf:Hid (∀ w1 e,steps (s.im.putDesc i) ws (s.im.ob i).descs.length=.ok w1→s.im.code i=.error e→s.im.put i ws=.error e):=zh fun w1 e h1 h2=>put_cfail h1 h2
 have hDn:Hid (∀ w1 c,steps (s.im.putDesc i) ws (s.im.ob i).descs.length=.ok w1→s.im.code i=.ok c→s.im.put i ws=.ok (copyAt (iter (s.im.putStr i) w1 (s.im.ob i).strings.length) (s.im.pl i).code.toNat c)):=zh fun w1 c h1 h2=>put_done h1 h2
 have hcd1:Hid (∀ e,s.im.fillC i (s.im.ob i).code (s.im.ob i).calls=.error e→s.im.code i=.error e):=zh fun e=>code_first
 have hcd2:Hid (∀ c,s.im.fillC i (s.im.ob i).code (s.im.ob i).calls=.ok c→s.im.code i=s.im.fillC i c (s.im.ob i).places):=zh fun c=>code_second
 have hfil:Hid (∀ code head,s.im.fillC i code head=if Fx.ferr code head (s.im.pl i).code (s.im.links i)=0 then .ok (Fx.flist code head (s.im.pl i).code (s.im.links i)) else .error 250):=zh fun _ _=>rfl
 have hfln:Hid (∀ code head c,U32s code→s.im.fillC i code head=.ok c→U32s c∧c.length=code.length):=zh fun code head c hu he=>fillC_len hu he
 have hPd:Hid (∀ k ws,s.im.putDesc i k ws=steps (s.im.putExt i ((s.im.pl i).descs+6*k) ((s.im.ob i).descs.getD k (0,[])).2) (ws.set ((s.im.pl i).descs+6*k).toNat ((s.im.ob i).descs.getD k (0,[])).1) ((s.im.ob i).descs.getD k (0,[])).2.length):=zh fun _ _=>rfl
 have hPs:Hid (∀ k ws,s.im.putStr i k ws=ws.set ((s.im.pl i).strings+k / 4).toNat (bits .or .u32 (ws.getD ((s.im.pl i).strings+k / 4).toNat 0) (IntKind.u32.wrap (IntKind.u32.wrap (((s.im.ob i).strings.getD k 0).toNat:Int)*2 ^ (8*((k % 4:Nat):Int)).toNat)))):=zh fun _ _=>rfl
 have hXe:Hid (∀ a es k ws,s.im.putExt i a es k ws=if (es.getD k (0,0)).2<(s.im.ob (s.im.usedN i (es.getD k (0,0)).1)).descs.length then .ok (ws.set (a+1+k).toNat (4*((s.im.pl (s.im.usedN i (es.getD k (0,0)).1)).descs+6*(es.getD k (0,0)).2))) else .error 250):=zh fun _ _ _ _=>rfl
 have hcln:Hid (∀ c,s.im.code i=.ok c→U32s c∧c.length=(s.im.ob i).code.length):=zh fun c=>code_len hm hin
 obtain⟨f1,f2,f3,f4,f5,f6,f7,g8,g9,g10⟩:=hfit
 obtain⟨p0,p1,p2,p3,-⟩:=hpk
 have hff:Hid (ObFine (s.im.ob i)):=zh (by rw[h.im_ob hi];exact(h.oms xs[i] (List.getElem_mem hi)).fine)
 have hWh:=zh hW
 have hil:(i:Int)<(xs.length:Int):=by omega
 clear h h2 hm hM hW hrj hMr F hTS hB1
 generalize hx:s.im.ob i=x at *
 generalize hpl:s.im.pl i=pl at *
 generalize hR:s.im.put i ws=R at *
 generalize hfP:s.im.putDesc i=fP at *
 generalize hfS:s.im.putStr i=fS at *
 generalize hen:s.im.end_=ze at *
 generalize hcc:s.im.code i=Rc at *
 generalize hlk:s.im.links i=Dl at *
 have hdsc:=zh hdsc0
 have hcod:=zh hcod0
 have f8:=zh g8
 have f9:=zh g9
 have f10:=zh g10
 clear hdsc0 hcod0 g8 g9 g10
 clear hx hpl hR hfP hfS hen hcc hlk
 have Oc:Hid ((obCells x (.slice AU x.uses.length cU) (.slice AD x.descs.length cD) (.slice AC x.code.length cC) (.slice AE x.entries.length cE)).all (·.oneCell')=true):=zh (by simp only[obCells,List.all_toArray,List.all_cons,List.all_nil];simp[Value.oneCell'])
 have hmid:pl.descs+6*(x.descs.length:Int)≤ws.length:=by omega
 have hpc:0≤pl.strings∧pl.strings+(x.strings.length:Int) / 4≤ws.length∧0≤pl.code∧pl.code+(x.code.length:Int)≤ws.length∧pl.code<65536∧pl.descs≤65536∧0≤pl.descs∧pl.strings≤65536:=by omega
 have hc1:1≤x.code.length:=by
  have h0:0<x.entries.length:=by omega
  have:=f8.out _ (List.getElem_mem h0)
  omega
 clear p0 p1 p2 p3 hz hplb0 hbound
 go_enter Tryz.func50,Tryz.ntmps50
 go_upto_region 0 with fail
 go_cut [8,9] from 22 to 32 (fun ra rb wx=>∃ qo qp:Nat,ra=.pointer (some ⟨qo,0,none⟩)∧rb=.pointer (some ⟨qp,0,none⟩)∧Hid (Blk wx qo obT (obCells x (.slice AU x.uses.length cU) (.slice AD x.descs.length cD) (.slice AC x.code.length cC) (.slice AE x.entries.length cE))∧Blk wx qp plT (plCells x pl)∧w.heap.size≤qo∧w.heap.size≤qp∧Below w.heap.size w wx))
 case first=>
  refine wp_region_F (TwoS lp go gm i (.slice (some ⟨go,0,none⟩) xs.length kk) (obCells x (.slice AU x.uses.length cU) (.slice AD x.descs.length cD) (.slice AC x.code.length cC) (.slice AE x.entries.length cE)) (plCells x pl)) 14 (by kernel_rfl) ?_
  have S0:=HS.out w.drew (Below.refl w.heap.size w).drew
  refine hfTake 0 (v:=?_) ?_ S0 ?_
  rotate_left
  ·(intro _ h;obtain⟨_,_,_⟩:=h;go_simp<;>with_reducible rfl)
  try simp only[Act.put,sAp,sA0,sAs]
  refine hfTake 1 (v:=?_) ?_ S0 ?_
  rotate_left
  ·(intro _ h;obtain⟨_,_,_⟩:=h;go_simp<;>with_reducible rfl)
  try simp only[Act.put,sAp,sA0,sAs]
  refine hfTake 2 (v:=?_) ?_ S0 ?_
  rotate_left
  ·(intro _ h;obtain⟨_,_,_⟩:=h;go_simp<;>with_reducible rfl)
  try simp only[Act.put,sAp,sA0,sAs]
  refine hfTake 3 (v:=?_) ?_ S0 ?_
  rotate_left
  ·(intro _ h;obtain⟨_,_,_⟩:=h;go_simp<;>with_reducible rfl)
  try simp only[Act.put,sAp,sA0,sAs]
  refine hfTake 4 (v:=?_) ?_ S0 ?_
  rotate_left
  ·(intro _ h;obtain⟨_,_,_⟩:=h;go_simp<;>with_reducible rfl)
  try simp only[Act.put,sAp,sA0,sAs]
  refine hfTake 5 (v:=?_) ?_ S0 ?_
  rotate_left
  ·(intro _ h;obtain⟨_,_,_⟩:=h;go_simp<;>with_reducible rfl)
  try simp only[Act.put,sAp,sA0,sAs]
  refine wpAnyF_takeY 6 rfl (by kernel_rfl) (by kernel_rfl) (by kernel_rfl) (by kernel_rfl) (fun _ _ _ h=>h) (yieldsIf_load_mid rfl 48 (.tmp 27) rfl go (i*10) rfl (obCells x (.slice AU x.uses.length cU) (.slice AD x.descs.length cD) (.slice AC x.code.length cC) (.slice AE x.entries.length cE)).toList _ (fun wS hSw=>hSw.2.1) Tryz.underlying48 rfl (by kernel_rfl)) S0 ?_
  try simp only[Act.put,sAp,sA0,sAs]
  refine hfTake 7 (v:=?_) ?_ S0 ?_
  rotate_left
  ·(intro _ h;obtain⟨_,_,_⟩:=h;go_simp<;>with_reducible rfl)
  try simp only[Act.put,sAp,sA0,sAs]
  refine hfTake 8 (v:=?_) ?_ S0 ?_
  rotate_left
  ·(intro _ h;obtain⟨_,_,_⟩:=h;go_simp<;>with_reducible rfl)
  try simp only[Act.put,sAp,sA0,sAs]
  refine hfTake 9 (v:=?_) ?_ S0 ?_
  rotate_left
  ·(intro _ h;obtain⟨_,_,_⟩:=h;go_simp<;>with_reducible rfl)
  try simp only[Act.put,sAp,sA0,sAs]
  refine wpAnyF_takeY 10 rfl (by kernel_rfl) (by kernel_rfl) (by kernel_rfl) (by kernel_rfl) (fun _ _ _ h=>h) (yieldsIf_load_mid rfl 39 (.tmp 31) rfl gm (i*6) rfl (plCells x pl).toList _ (fun wS hSw=>hSw.2.2) Tryz.underlying39 rfl (by kernel_rfl)) S0 ?_
  try simp only[Act.put,sAp,sA0,sAs]
  refine wpAnyF_ready [11,12] (by kernel_rfl) (by simp) (ReadyF.consL rfl (fun K hK=>?_) (ReadyF.consL rfl (fun K hK=>?_) ReadyF.nil))
  ·go_simp
   have G1:=zh ((Below.refl w.heap.size w).alloc (Nat.le_refl _) (.cells #[.string ⟨#[]⟩,.int .u32 0,.slice none 0 0,.slice none 0 0,.int .i64 0,.string ⟨#[]⟩,.slice none 0 0,.slice none 0 0,.int .i64 0,.int .i64 0] obT)).drew
   have N1:=zh (Blk.new w obT #[.string ⟨#[]⟩,.int .u32 0,.slice none 0 0,.slice none 0 0,.int .i64 0,.string ⟨#[]⟩,.slice none 0 0,.slice none 0 0,.int .i64 0,.int .i64 0]).drew
   refine hK.out _ _ (fun _=>HS.out _ G1.out) ?_
   clear hK K S0
   try simp only[Act.put,sAp,sA0,sAs]
   try rw[show w.drew.heap.size=w.heap.size from rfl]
   obtain⟨qo,e1⟩:∃ qo,qo=w.heap.size:=⟨_,rfl⟩
   have L1:=zh (show qo<(w.alloc (.cells #[.string ⟨#[]⟩,.int .u32 0,.slice none 0 0,.slice none 0 0,.int .i64 0,.string ⟨#[]⟩,.slice none 0 0,.slice none 0 0,.int .i64 0,.int .i64 0] obT)).drew.heap.size by rw[e1];exact N1.out.lt)
   have U1:=zh (show w.heap.size≤qo by rw[e1];exact Nat.le_refl _)
   rw[← e1] at N1 ⊢
   clear e1
   generalize (w.alloc (.cells #[.string ⟨#[]⟩,.int .u32 0,.slice none 0 0,.slice none 0 0,.int .i64 0,.string ⟨#[]⟩,.slice none 0 0,.slice none 0 0,.int .i64 0,.int .i64 0] obT)).drew=v1 at *
   refine hfRdy 12 (by kernel_rfl) rfl fun K hK=>?_
   go_simp
   have G2:=zh (G1.out.alloc G1.out.size (.cells #[.string ⟨#[]⟩,.int .u32 0,.int .i64 0,.int .i64 0,.int .i64 0,.int .i64 0] plT))
   have N2:=zh (N1.out.alloc (.cells #[.string ⟨#[]⟩,.int .u32 0,.int .i64 0,.int .i64 0,.int .i64 0,.int .i64 0] plT))
   have M2:=zh (Blk.new v1 plT #[.string ⟨#[]⟩,.int .u32 0,.int .i64 0,.int .i64 0,.int .i64 0,.int .i64 0])
   have hne:=zh (show qo≠v1.heap.size from Nat.ne_of_lt L1.out)
   have U2:=zh (show w.heap.size≤v1.heap.size from G1.out.size)
   refine hK.out _ _ (fun _=>HS.out _ G2.out) ?_
   clear hK K N1 L1 G1
   try simp only[Act.put,sAp,sA0,sAs]
   generalize v1.heap.size=qp at *
   generalize v1.alloc (.cells #[.string ⟨#[]⟩,.int .u32 0,.int .i64 0,.int .i64 0,.int .i64 0,.int .i64 0] plT)=v2 at *
   have Bo:Hid (Blk v2 qo obT #[.string ⟨#[]⟩,.int .u32 0,.slice none 0 0,.slice none 0 0,.int .i64 0,.string ⟨#[]⟩,.slice none 0 0,.slice none 0 0,.int .i64 0,.int .i64 0]):=N2
   have Bp:Hid (Blk v2 qp plT #[.string ⟨#[]⟩,.int .u32 0,.int .i64 0,.int .i64 0,.int .i64 0,.int .i64 0]):=M2
   have Hne:Hid (qo≠qp):=hne
   have Uo:Hid (w.heap.size≤qo):=U1
   have Up:Hid (w.heap.size≤qp):=U2
   clear N2 M2 hne U1 U2
   refine hfRdy 13 (by kernel_rfl) rfl fun K hK=>?_
   refine step_store_row rfl obT (.tmp 8) (.tmp 28) rfl qo (obCells x (.slice AU x.uses.length cU) (.slice AD x.descs.length cD) (.slice AC x.code.length cC) (.slice AE x.entries.length cE)) rfl rfl obT #[.string ⟨#[]⟩,.int .u32 0,.slice none 0 0,.slice none 0 0,.int .i64 0,.string ⟨#[]⟩,.slice none 0 0,.slice none 0 0,.int .i64 0,.int .i64 0] Bo.out (by kernel_rfl) rfl Oc.out ?_
   have G3:=zh (below_setRow G2.out Uo.out (obCells x (.slice AU x.uses.length cU) (.slice AD x.descs.length cD) (.slice AC x.code.length cC) (.slice AE x.entries.length cE)))
   have Co:=zh (show Blk (v2.setRow qo (obCells x (.slice AU x.uses.length cU) (.slice AD x.descs.length cD) (.slice AC x.code.length cC) (.slice AE x.entries.length cE))) qo obT (obCells x (.slice AU x.uses.length cU) (.slice AD x.descs.length cD) (.slice AC x.code.length cC) (.slice AE x.entries.length cE)) from setRow_heap _ _ _ _ _ _ Bo.out)
   have Cp:=zh (show Blk (v2.setRow qo (obCells x (.slice AU x.uses.length cU) (.slice AD x.descs.length cD) (.slice AC x.code.length cC) (.slice AE x.entries.length cE))) qp plT #[.string ⟨#[]⟩,.int .u32 0,.int .i64 0,.int .i64 0,.int .i64 0,.int .i64 0] from (setRow_other _ _ _ _ (Ne.symm Hne.out)).trans Bp.out)
   refine hK.out _ _ (fun _=>HS.out _ G3.out) ?_
   clear hK K G2 Bo Bp
   try simp only[Act.put,sAp,sA0,sAs]
   generalize v2.setRow qo (obCells x (.slice AU x.uses.length cU) (.slice AD x.descs.length cD) (.slice AC x.code.length cC) (.slice AE x.entries.length cE))=v3 at *
   refine hfRdy 14 (by kernel_rfl) rfl fun K hK=>?_
   refine step_store_row rfl plT (.tmp 9) (.tmp 32) rfl qp (plCells x pl) rfl rfl plT #[.string ⟨#[]⟩,.int .u32 0,.int .i64 0,.int .i64 0,.int .i64 0,.int .i64 0] Cp.out (by kernel_rfl) rfl (pl_one x pl) ?_
   have G4:=zh (below_setRow G3.out Up.out (plCells x pl))
   have Dp:=zh (show Blk (v3.setRow qp (plCells x pl)) qp plT (plCells x pl) from setRow_heap _ _ _ _ _ _ Cp.out)
   have Do:=zh (show Blk (v3.setRow qp (plCells x pl)) qo obT (obCells x (.slice AU x.uses.length cU) (.slice AD x.descs.length cD) (.slice AC x.code.length cC) (.slice AE x.entries.length cE)) from (setRow_other _ _ _ _ Hne.out).trans Co.out)
   refine hK.out _ _ (fun h=>absurd rfl h) ?_
   clear hK K G3 Co Cp
   try simp only[Act.put,sAp,sA0,sAs]
   generalize v3.setRow qp (plCells x pl)=v4 at *
   refine wpAnyF_done (by kernel_rfl) ?_ _
   go_wp2_with fail
   go_meet
   exact⟨qo,qp,rfl,rfl,zh ⟨Do.out,Dp.out,Uo.out,Up.out,G4.out⟩⟩
  ·go_simp
   have G1:=zh ((Below.refl w.heap.size w).alloc (Nat.le_refl _) (.cells #[.string ⟨#[]⟩,.int .u32 0,.int .i64 0,.int .i64 0,.int .i64 0,.int .i64 0] plT)).drew
   have N1:=zh (Blk.new w plT #[.string ⟨#[]⟩,.int .u32 0,.int .i64 0,.int .i64 0,.int .i64 0,.int .i64 0]).drew
   refine hK.out _ _ (fun _=>HS.out _ G1.out) ?_
   clear hK K S0
   try simp only[Act.put,sAp,sA0,sAs]
   try rw[show w.drew.heap.size=w.heap.size from rfl]
   obtain⟨qp,e1⟩:∃ qp,qp=w.heap.size:=⟨_,rfl⟩
   have L1:=zh (show qp<(w.alloc (.cells #[.string ⟨#[]⟩,.int .u32 0,.int .i64 0,.int .i64 0,.int .i64 0,.int .i64 0] plT)).drew.heap.size by rw[e1];exact N1.out.lt)
   have U1:=zh (show w.heap.size≤qp by rw[e1];exact Nat.le_refl _)
   rw[← e1] at N1 ⊢
   clear e1
   generalize (w.alloc (.cells #[.string ⟨#[]⟩,.int .u32 0,.int .i64 0,.int .i64 0,.int .i64 0,.int .i64 0] plT)).drew=v1 at *
   refine hfRdy 11 (by kernel_rfl) rfl fun K hK=>?_
   go_simp
   have G2:=zh (G1.out.alloc G1.out.size (.cells #[.string ⟨#[]⟩,.int .u32 0,.slice none 0 0,.slice none 0 0,.int .i64 0,.string ⟨#[]⟩,.slice none 0 0,.slice none 0 0,.int .i64 0,.int .i64 0] obT))
   have N2:=zh (N1.out.alloc (.cells #[.string ⟨#[]⟩,.int .u32 0,.slice none 0 0,.slice none 0 0,.int .i64 0,.string ⟨#[]⟩,.slice none 0 0,.slice none 0 0,.int .i64 0,.int .i64 0] obT))
   have M2:=zh (Blk.new v1 obT #[.string ⟨#[]⟩,.int .u32 0,.slice none 0 0,.slice none 0 0,.int .i64 0,.string ⟨#[]⟩,.slice none 0 0,.slice none 0 0,.int .i64 0,.int .i64 0])
   have hne:=zh (show qp≠v1.heap.size from Nat.ne_of_lt L1.out)
   have U2:=zh (show w.heap.size≤v1.heap.size from G1.out.size)
   refine hK.out _ _ (fun _=>HS.out _ G2.out) ?_
   clear hK K N1 L1 G1
   try simp only[Act.put,sAp,sA0,sAs]
   generalize v1.heap.size=qo at *
   generalize v1.alloc (.cells #[.string ⟨#[]⟩,.int .u32 0,.slice none 0 0,.slice none 0 0,.int .i64 0,.string ⟨#[]⟩,.slice none 0 0,.slice none 0 0,.int .i64 0,.int .i64 0] obT)=v2 at *
   have Bo:Hid (Blk v2 qo obT #[.string ⟨#[]⟩,.int .u32 0,.slice none 0 0,.slice none 0 0,.int .i64 0,.string ⟨#[]⟩,.slice none 0 0,.slice none 0 0,.int .i64 0,.int .i64 0]):=M2
   have Bp:Hid (Blk v2 qp plT #[.string ⟨#[]⟩,.int .u32 0,.int .i64 0,.int .i64 0,.int .i64 0,.int .i64 0]):=N2
   have Hne:Hid (qo≠qp):=zh (Ne.symm hne.out)
   have Uo:Hid (w.heap.size≤qo):=U2
   have Up:Hid (w.heap.size≤qp):=U1
   clear N2 M2 hne U1 U2
   refine hfRdy 13 (by kernel_rfl) rfl fun K hK=>?_
   refine step_store_row rfl obT (.tmp 8) (.tmp 28) rfl qo (obCells x (.slice AU x.uses.length cU) (.slice AD x.descs.length cD) (.slice AC x.code.length cC) (.slice AE x.entries.length cE)) rfl rfl obT #[.string ⟨#[]⟩,.int .u32 0,.slice none 0 0,.slice none 0 0,.int .i64 0,.string ⟨#[]⟩,.slice none 0 0,.slice none 0 0,.int .i64 0,.int .i64 0] Bo.out (by kernel_rfl) rfl Oc.out ?_
   have G3:=zh (below_setRow G2.out Uo.out (obCells x (.slice AU x.uses.length cU) (.slice AD x.descs.length cD) (.slice AC x.code.length cC) (.slice AE x.entries.length cE)))
   have Co:=zh (show Blk (v2.setRow qo (obCells x (.slice AU x.uses.length cU) (.slice AD x.descs.length cD) (.slice AC x.code.length cC) (.slice AE x.entries.length cE))) qo obT (obCells x (.slice AU x.uses.length cU) (.slice AD x.descs.length cD) (.slice AC x.code.length cC) (.slice AE x.entries.length cE)) from setRow_heap _ _ _ _ _ _ Bo.out)
   have Cp:=zh (show Blk (v2.setRow qo (obCells x (.slice AU x.uses.length cU) (.slice AD x.descs.length cD) (.slice AC x.code.length cC) (.slice AE x.entries.length cE))) qp plT #[.string ⟨#[]⟩,.int .u32 0,.int .i64 0,.int .i64 0,.int .i64 0,.int .i64 0] from (setRow_other _ _ _ _ (Ne.symm Hne.out)).trans Bp.out)
   refine hK.out _ _ (fun _=>HS.out _ G3.out) ?_
   clear hK K G2 Bo Bp
   try simp only[Act.put,sAp,sA0,sAs]
   generalize v2.setRow qo (obCells x (.slice AU x.uses.length cU) (.slice AD x.descs.length cD) (.slice AC x.code.length cC) (.slice AE x.entries.length cE))=v3 at *
   refine hfRdy 14 (by kernel_rfl) rfl fun K hK=>?_
   refine step_store_row rfl plT (.tmp 9) (.tmp 32) rfl qp (plCells x pl) rfl rfl plT #[.string ⟨#[]⟩,.int .u32 0,.int .i64 0,.int .i64 0,.int .i64 0,.int .i64 0] Cp.out (by kernel_rfl) rfl (pl_one x pl) ?_
   have G4:=zh (below_setRow G3.out Up.out (plCells x pl))
   have Dp:=zh (show Blk (v3.setRow qp (plCells x pl)) qp plT (plCells x pl) from setRow_heap _ _ _ _ _ _ Cp.out)
   have Do:=zh (show Blk (v3.setRow qp (plCells x pl)) qo obT (obCells x (.slice AU x.uses.length cU) (.slice AD x.descs.length cD) (.slice AC x.code.length cC) (.slice AE x.entries.length cE)) from (setRow_other _ _ _ _ Hne.out).trans Co.out)
   refine hK.out _ _ (fun h=>absurd rfl h) ?_
   clear hK K G3 Co Cp
   try simp only[Act.put,sAp,sA0,sAs]
   generalize v3.setRow qp (plCells x pl)=v4 at *
   refine wpAnyF_done (by kernel_rfl) ?_ _
   go_wp2_with fail
   go_meet
   exact⟨qo,qp,rfl,rfl,zh ⟨Do.out,Dp.out,Uo.out,Up.out,G4.out⟩⟩
 case rest=>
  obtain⟨qo,qp,rfl,rfl,hC⟩:=hcut
  obtain⟨Co,Cp,Uo,Up,hBc⟩:=hC.out
  have hKc:Hid (Kept (fun p=>p<w.heap.size∧p≠gw) w wc):=zh ((Kept.refl _ w).below hBc fun k hk=>hk.1)
  have hW0:Hid (LWd wc gw ws):=zh (hWh.out.below hBc)
  have n3:=Co.cell 3
  simp only[obCells,gAr,gC0,gCs] at n3
  have hqo:qo≠gw∧qp≠gw:=by omega
  have hCo:=zh Co
  have hCp:=zh Cp
  have hwz:w.heap.size≤wc.heap.size:=hBc.size
  have hgwc:gw<wc.heap.size:=by omega
  clear Co Cp hBc hC HS hWh Oc
  generalize wc=wa at *
  have hKK:Hid (∀ w',Kept (fun p=>p<wa.heap.size∧p≠gw) wa w'→Kept (fun p=>p<w.heap.size∧p≠gw) w w'):=zh fun w' hk=>Kept.trans hKc.out (hk.mono fun p hp=>⟨Nat.lt_of_lt_of_le hp.1 hwz,hp.2⟩)
  go_wp2_with fail
  clear n3
  go_loopw [36] (fun kv wr=>∃ k:Nat,kv=.int .i64 k∧k≤x.descs.length∧Hid (∃ w1,steps fP ws k=.ok w1∧w1.length=ws.length∧LWd wr gw w1∧Kept (fun p=>p<wa.heap.size∧p≠gw) wa wr)) (fun kv _=>64-(intOf kv).toNat)
  case atStart=>exact⟨0,rfl,by omega,zh ⟨ws,rfl,rfl,hW0.out,Kept.refl _ _⟩⟩
  case round=>
   clear hW0
   obtain⟨k,rfl,hk,hI⟩:=hrel
   obtain⟨w1,hst,hl1',hw1,hk1⟩:=hI.out
   clear hI
   by_cases hlt:(k:Int)<(x.descs.length:Int)
   ·have hkl:k<x.descs.length:=by omega
    have hbr:=hKB.out wr (hKK.out wr hk1)
    obtain⟨ad,hAd,had,x1⟩:=row_at hdsc.out k hkl
    subst hAd
    obtain⟨y0,x3w,q0⟩:=x1 0 (by decide)
    obtain⟨y1,x4w,q1⟩:=x1 1 (by decide)
    obtain rfl:=q0.1 rfl
    have E1:ERow W1 y1 x.descs[k].2:=q1.2 rfl
    have hd:=zh (f9.out _ (List.getElem_mem hkl))
    have hPk:Hid (∀ ws,fP k ws=steps (s.im.putExt i (pl.descs+6*k) x.descs[k].2) (ws.set (pl.descs+6*k).toNat x.descs[k].1) x.descs[k].2.length):=zh fun ws=>by
     have:=hPd.out k ws
     rw[show x.descs.getD k (0,[])=x.descs[k] by rw[List.getD_eq_getElem?_getD,List.getElem?_eq_getElem hkl];rfl] at this
     exact this
    have x3:wr.cell? (ad.add (k*2))=some (.int .i64 x.descs[k].1):=(hbr.cell (p:=ad.add (k*2)) (by rw[block_add];exact had)).trans x3w
    have x4:wr.cell? ⟨(ad.add (k*2)).block,(ad.add (k*2)).off+1,none⟩=some y1:=(hbr.cell (p:=⟨(ad.add (k*2)).block,(ad.add (k*2)).off+1,none⟩) (by show (ad.add (k*2)).block<_;rw[block_add];exact had)).trans x4w
    clear x1 q0 q1 x3w x4w had hbr
    generalize x.descs[k]=la at *
    obtain⟨a0,a1⟩:=la
    dsimp only at x3 E1 hd hPk
    obtain⟨-,A1,c1,rfl,-⟩:=id E1
    have E1h:=zh E1
    obtain⟨⟨ha00,ha01⟩,⟨-,ha15⟩,hext0⟩:=hd.out
    have hext:=zh hext0
    obtain⟨A,hA⟩:∃ A:Nat,pl.descs+6*(k:Int)=A:=⟨(pl.descs+6*(k:Int)).toNat,by omega⟩
    have hAl:A+6≤ws.length:=by omega
    have hA0:A<w1.length:=by omega
    rw[hA,Int.toNat_natCast] at hPk
    have hv1:wrap64 (6*(k:Int))=6*k:=by unfold wrap64;omega
    have hv2:wrap64 (pl.descs+6*(k:Int))=A:=by rw[hA];unfold wrap64;omega
    have hv3:IntKind.u32.wrap a0=a0:=by rw[IntKind.wrap_u32];omega
    have c2:=(hCp.out.kept hk1 ⟨hCp.out.lt,hqo.2⟩).cell 2
    simp only[plCells,gAr,gC0,gCs] at c2
    have hqpl:qp<wr.heap.size:=Nat.lt_of_lt_of_le hCp.out.lt hk1.size
    have hgwr:gw<wr.heap.size:=Nat.lt_of_lt_of_le hgwc hk1.size
    have cw:=hw1.cell A hA0
    have fw:=hw1.frozen A
    have hwsz:=hk1.size
    have hszc:(wr.setCell ⟨gw,A,none⟩ (.int .u32 a0)).heap.size=wr.heap.size:=by simp
    have hW2:=zh ((hw1.set_ A a0).alloc (.cells #[.int .i64 a0,.slice A1 a1.length c1] 84))
    have hk2:=zh ((hk1.setCell (p:=⟨gw,A,none⟩) (fun hS=>hS.2 rfl) (.int .u32 a0)).alloc (fun p hp=>by rw[hszc];exact Nat.lt_of_lt_of_le hp.1 hk1.size) (.cells #[.int .i64 a0,.slice A1 a1.length c1] 84))
    have hDb:=(Blk.new (wr.setCell ⟨gw,A,none⟩ (.int .u32 a0)) 84 #[.int .i64 a0,.slice A1 a1.length c1]).cell 1
    simp only[gAr,gC0,gCs] at hDb
    rw[hszc] at hDb
    clear hszc
    have hl2:(w1.set A a0).length=ws.length:=by rw[List.length_set];exact hl1'
    have hAllErr:Hid (∀ q w3,q<a1.length→steps (s.im.putExt i A a1) (w1.set A a0) q=.ok w3→s.im.putExt i A a1 q w3=.error 250→R=.error 250):=zh fun q w3 hq h1 h2=>hDf.out 250 (steps_stop hst ((hPk.out w1).trans (steps_stop h1 h2 hq)) hkl)
    have hAllOk:Hid (∀ w3,steps (s.im.putExt i A a1) (w1.set A a0) a1.length=.ok w3→steps fP ws (k+1)=.ok w3):=zh fun w3 h=>(steps_succ hst).trans ((hPk.out w1).trans h)
    have hXk:Hid (∀ q w3,s.im.putExt i A a1 q w3=if (a1.getD q (0,0)).2<(s.im.ob (s.im.usedN i (a1.getD q (0,0)).1)).descs.length then .ok (w3.set ((A:Int)+1+q).toNat (4*((s.im.pl (s.im.usedN i (a1.getD q (0,0)).1)).descs+6*(a1.getD q (0,0)).2))) else .error 250):=zh fun q w3=>hXe.out A a1 q w3
    clear E1 hd hext0 hst hl1' hw1 hk1 hPk
    have hAh:=zh hA
    generalize s.im.putExt i A a1=fX at *
    generalize w1.set A a0=w2 at *
    go_upto_region 6 with fail
    clear hA x3 x4 c2 cw fw hv1 hv2 hv3 hqpl hgwr hA0
    generalize World.alloc _ _=W2 at *
    generalize wr.heap.size=gd at *
    go_wp2_with fail
    clear hDb
    go_loopw [55] (fun qv wr=>∃ q:Nat,qv=.int .i64 q∧q≤a1.length∧Hid (∃ w3,steps fX w2 q=.ok w3∧w3.length=ws.length∧LWd wr gw w3∧Kept (fun p=>p<wa.heap.size∧p≠gw) wa wr)) (fun qv _=>5-(intOf qv).toNat)
    case atStart=>exact⟨0,rfl,by omega,zh ⟨w2,rfl,hl2,hW2.out,hk2.out⟩⟩
    case round=>
     clear hW2 hk2 hl2
     obtain⟨q,rfl,hq,hI⟩:=hrel
     obtain⟨w3,hs3,hl3,hw3,hk3⟩:=hI.out
     clear hI
     by_cases hlt2:(q:Int)<(a1.length:Int)
     ·have hql:q<a1.length:=by omega
      have hbr:=hKB.out wr (hKK.out wr hk3)
      obtain⟨ad2,hAd2,had2,x1⟩:=row_at E1h.out q hql
      subst hAd2
      obtain⟨y0,x3w,q0⟩:=x1 0 (by decide)
      obtain⟨y1,x4w,q1⟩:=x1 1 (by decide)
      obtain rfl:=q0.1 rfl
      obtain rfl:=q1.2 rfl
      obtain⟨⟨he0,he1⟩,he2,he3⟩:=hext.out _ (List.getElem_mem hql)
      have x3:wr.cell? (ad2.add (q*2))=some (.int .i64 a1[q].1):=(hbr.cell (p:=ad2.add (q*2)) (by rw[block_add];exact had2)).trans x3w
      have x4:wr.cell? ⟨(ad2.add (q*2)).block,(ad2.add (q*2)).off+1,none⟩=some (.int .i64 a1[q].2):=(hbr.cell (p:=⟨(ad2.add (q*2)).block,(ad2.add (q*2)).off+1,none⟩) (by show (ad2.add (q*2)).block<_;rw[block_add];exact had2)).trans x4w
      have hXq:=hXk.out q w3
      rw[show a1.getD q (0,0)=a1[q] by rw[List.getD_eq_getElem?_getD,List.getElem?_eq_getElem hql];rfl] at hXq
      clear x1 q0 q1 x3w x4w had2 hbr
      generalize a1[q]=le at *
      obtain⟨e0,e1⟩:=le
      dsimp only at x3 x4 he0 he1 he2 he3 hXq
      have hj:=hjn.out e0 he0 he1
      obtain⟨hp0,hp1,hp2⟩:=hplb.out _ hj
      obtain⟨ADj,cDj,hoj⟩:=hobj.out _ hj
      have hmj:=hmod.out _ hj
      have hoj:=zh hoj
      have hmj:=zh hmj
      have hwsz3:=hk3.size
      have hw4:=zh (hw3.alloc (.cells #[.int .i64 e0,.int .i64 e1] 93))
      have hk4:=zh (hk3.alloc (fun p hp=>Nat.lt_of_lt_of_le hp.1 hk3.size) (.cells #[.int .i64 e0,.int .i64 e1] 93))
      have hEb:=zh (Blk.new wr 93 #[.int .i64 e0,.int .i64 e1])
      have US:=zh (huse.out _ (hKK.out _ hk4.out) e0 he0 he1)
      generalize s.im.usedN i e0=j at *
      generalize (s.im.ob j).descs.length=dl at *
      generalize (s.im.pl j).descs=pj at *
      have hXq:=zh hXq
      go_upto_region 9 with fail
      clear x3 x4
      generalize wr.alloc _=Wb at *
      generalize wr.heap.size=ge at *
      have hE0:Wb.cell? ⟨ge,0,none⟩=some (.int .i64 e0):=by have:=hEb.out.cell 0;simpa using this
      go_upto_region 10 with (first | (go_at_call 68;refine US.out.mono ?_;rintro e w5 ⟨rfl,hk5⟩;have hk5:=zh hk5;clear US) | fail)
      have hk6:=zh (Kept.trans hk4.out (hk5.out.mono fun _ _=>trivial)).drew
      have hw6:=zh (hw4.out.kept hk5.out trivial).drew
      have hE6:=zh (hEb.out.kept hk5.out trivial).drew
      clear hk4 hw4 hEb hE0 hk5 hk3 hw3 hwsz3
      have hKw:=zh (hKK.out _ hk6.out)
      have d3:=hc3.out _ hKw.out
      have doj:=hoj.out _ hKw.out
      have dmj:=hmj.out _ hKw.out
      have dE1:w5.drew.cell? ⟨ge,1,none⟩=some (.int .i64 e1):=by have:=hE6.out.cell 1;simpa using this
      have hjx:(j:Int)<(xs.length:Int):=by have:=hn.out;omega
      by_cases hcmp:e1<(dl:Int)
      ·have hXq2:=hXq.out
       rw[if_pos hcmp] at hXq2
       obtain⟨Bq,hBq⟩:∃ Bq:Nat,(A:Int)+1+q=Bq:=⟨A+1+q,by push_cast;omega⟩
       rw[hBq,Int.toNat_natCast] at hXq2
       have hXq2:=zh hXq2
       have hst4:=zh (steps_succ hs3)
       rw[hXq2.out] at hst4
       have hl4:(w3.set Bq (4*(pj+6*e1))).length=ws.length:=by rw[List.length_set];exact hl3
       have hBl:(Bq:Int)<(ws.length:Int):=by omega
       have hBl3:Bq<w3.length:=by omega
       have hcmpd:decide (e1<(dl:Int))=true:=decide_eq_true hcmp
       refine region_drew 12 (by kernel_rfl) (by kernel_rfl) ?_
       simp only[List.take_succ_cons,List.take_zero,List.drop_succ_cons,List.drop_zero]
       repeat still_step
       refine wpStill_nil ?_
       generalize w5.drew=wd at *
       go_upto_region 11 with (go_at_call 48;refine(want_ok _ _).mono ?_;rintro e w6 ⟨rfl,rfl⟩)
       clear dE1 d3 doj dmj
       have dmj:=hmj.out _ hKw.out
       have dE1:wd.cell? ⟨ge,1,none⟩=some (.int .i64 e1):=by have:=hE6.out.cell 1;simpa using this
       have v1:IntKind.i64.wrap ((A:Int)+1)=A+1:=by rw[IntKind.wrap_i64];omega
       have v2:IntKind.i64.wrap ((A:Int)+1+q)=Bq:=by rw[hBq,IntKind.wrap_i64];omega
       have v2b:IntKind.i64.wrap (Bq:Int)=Bq:=by rw[IntKind.wrap_i64];omega
       have v3:IntKind.i64.wrap (6*e1)=6*e1:=by rw[IntKind.wrap_i64];omega
       have v4:IntKind.i64.wrap (pj+6*e1)=pj+6*e1:=by rw[IntKind.wrap_i64];omega
       have v5:IntKind.i64.wrap (4*(pj+6*e1))=4*(pj+6*e1):=by rw[IntKind.wrap_i64];omega
       have v6:IntKind.u32.wrap (4*(pj+6*e1))=4*(pj+6*e1):=by rw[IntKind.wrap_u32];omega
       have cw:=hw6.out.cell Bq hBl3
       have fw:=hw6.out.frozen Bq
       refine region_drew 17 (by kernel_rfl) (by kernel_rfl) ?_
       simp only[List.take_succ_cons,List.take_zero,List.drop_succ_cons,List.drop_zero]
       repeat still_step
       refine wpStill_nil ?_
       have hk7:=zh (hk6.out.drew.setCell (p:=⟨gw,Bq,none⟩) (fun hS=>hS.2 rfl) (.int .u32 (4*(pj+6*e1))))
       have hw7:=zh (hw6.out.drew.set_ Bq (4*(pj+6*e1)))
       clear hk6 hw6
       go_wp2_with fail
       exact⟨⟨q+1,by go_num,by omega,zh ⟨_,hst4.out,hl4,hw7.out,hk7.out⟩⟩,by simp[intOf];omega⟩
      ·have hXq2:=hXq.out
       rw[if_neg hcmp] at hXq2
       have hRe:=zh (hAllErr.out q w3 hql hs3 hXq2)
       have hcmpd:decide (e1<(dl:Int))=false:=decide_eq_false hcmp
       refine region_drew 12 (by kernel_rfl) (by kernel_rfl) ?_
       simp only[List.take_succ_cons,List.take_zero,List.drop_succ_cons,List.drop_zero]
       repeat still_step
       refine wpStill_nil ?_
       generalize w5.drew=wd at *
       go_wp2_with fail
       refine(want_no 250 _).mono ?_
       rintro e w6 ⟨rfl,rfl⟩
       exact⟨rfl,PutEnd.no hRe.out hKw.out⟩
     ·obtain rfl:q=a1.length:=by omega
      have hok:=hAllOk.out w3 hs3
      have hok:=zh hok
      have hw3:=zh hw3
      have hk3:=zh hk3
      go_wp2_with fail
      exact⟨⟨k+1,by go_num,by omega,zh ⟨w3,hok.out,hl3,hw3.out,hk3.out⟩⟩,by simp[intOf];omega⟩
   ·obtain rfl:k=x.descs.length:=by omega
    have hstA:=zh hst
    have hwA:=zh hw1
    have hkA:=zh hk1
    have n5:=(hCo.out.kept hk1 ⟨hCo.out.lt,hqo.1⟩).cell 5
    simp only[obCells,gAr,gC0,gCs] at n5
    have hss:=txt_size x.strings
    clear hst hw1 hk1 hdsc f9 hPd hXe hDf hobj hmod huse hjn hplb hlt hk
    generalize wr=wb at *
    go_wp2_with fail
    clear n5
    go_loopw [100] (fun kv wr=>∃ q:Nat,kv=.int .i64 q∧q≤x.strings.length∧Hid (∃ w2,w2=iter fS w1 q∧w2.length=ws.length∧LWd wr gw w2∧Kept (fun p=>p<wa.heap.size∧p≠gw) wa wr)) (fun kv _=>32768-(intOf kv).toNat)
    case atStart=>exact⟨0,rfl,by omega,zh ⟨w1,rfl,hl1',hwA.out,hkA.out⟩⟩
    case round=>
     clear hwA hkA
     obtain⟨q,rfl,hq,hI⟩:=hrel
     obtain⟨w2,hs2,hl2,hw2,hk2⟩:=hI.out
     clear hI
     by_cases hlt2:(q:Int)<(x.strings.length:Int)
     ·have hql:q<x.strings.length:=by omega
      have hSq:=hPs.out q w2
      obtain⟨A,hA⟩:∃ A:Nat,pl.strings+(q:Int) / 4=A:=⟨(pl.strings+(q:Int) / 4).toNat,by omega⟩
      rw[hA,Int.toNat_natCast] at hSq
      have hAl:A<ws.length:=by omega
      have hAl2:A<w2.length:=by omega
      have hAi:(A:Int)<(ws.length:Int):=by omega
      have hnx:iter fS w1 (q+1)=fS q w2:=by rw[hs2];rfl
      rw[hSq,show w2.getD A 0=w2[A] by rw[List.getD_eq_getElem?_getD,List.getElem?_eq_getElem hAl2];rfl,show x.strings.getD q 0=x.strings[q] by rw[List.getD_eq_getElem?_getD,List.getElem?_eq_getElem hql];rfl] at hnx
      have d4:=(hCp.out.kept hk2 ⟨hCp.out.lt,hqo.2⟩).cell 4
      simp only[plCells,gAr,gC0,gCs] at d4
      have d5:=(hCo.out.kept hk2 ⟨hCo.out.lt,hqo.1⟩).cell 5
      simp only[obCells,gAr,gC0,gCs] at d5
      have cw:=hw2.cell A hAl2
      have fw:=hw2.frozen A
      have hqs:(q:Int)<((txt x.strings).size:Int):=by rw[txt_size];omega
      have u1:IntKind.i64.wrap ((q:Int) / 4)=(q:Int) / 4:=by rw[IntKind.wrap_i64];omega
      have u2:IntKind.i64.wrap (A:Int)=A:=by rw[IntKind.wrap_i64];omega
      have hrr:q % 4<4:=Nat.mod_lt _ (by decide)
      have hqb:q<(txt x.strings).size:=by rw[txt_size];exact hql
      have hbt:(txt x.strings)[q]=x.strings.getD q 0:=by
       rw[List.getD_eq_getElem?_getD,List.getElem?_eq_getElem hql]
       simp[txt,ByteArray.getElem_eq_getElem_data]
      have hbt:=zh hbt
      obtain⟨r,hr,hr4⟩:∃ r:Nat,q % 4=r∧r<4:=⟨q % 4,rfl,Nat.mod_lt _ (by decide)⟩
      have t1:((q:Int)).tmod 4=(r:Int):=by rw[Int.tmod_eq_emod_of_nonneg (by omega)];omega
      have t2:IntKind.i64.wrap (8*(r:Int))=8*(r:Int):=by rw[IntKind.wrap_i64];omega
      have hw2h:=zh hw2
      have hk2h:=zh hk2
      have hnxh:=zh hnx
      clear hw2 hk2 hnx hSq hs2
      go_upto_region 17 with fail
      refine region_drew 19 (by kernel_rfl) (by kernel_rfl) ?_
      simp only[List.take_succ_cons,List.take_zero,List.drop_succ_cons,List.drop_zero]
      repeat still_step
      refine wpStill_nil ?_
      have hk7:=zh (hk2h.out.drew.setCell (p:=⟨gw,A,none⟩) (fun hS=>hS.2 rfl) (.int .u32 (bits .or .u32 w2[A] (IntKind.u32.wrap (IntKind.u32.wrap (x.strings[q].toNat:Int)*2 ^ (8*(r:Int)).toNat)))))
      have hw7:=zh (hw2h.out.drew.set_ A (bits .or .u32 w2[A] (IntKind.u32.wrap (IntKind.u32.wrap (x.strings[q].toNat:Int)*2 ^ (8*(r:Int)).toNat))))
      have hl7:(w2.set A (bits .or .u32 w2[A] (IntKind.u32.wrap (IntKind.u32.wrap (x.strings[q].toNat:Int)*2 ^ (8*(r:Int)).toNat)))).length=ws.length:=by rw[List.length_set];exact hl2
      have hr7:Hid (w2.set A (bits .or .u32 w2[A] (IntKind.u32.wrap (IntKind.u32.wrap (x.strings[q].toNat:Int)*2 ^ (8*(r:Int)).toNat)))=iter fS w1 (q+1)):=zh (by rw[hnxh.out,hr];rfl)
      clear hk2h hw2h hnxh
      go_wp2_with fail
      exact⟨⟨q+1,by go_num,by omega,zh ⟨_,hr7.out,hl7,hw7.out,hk7.out⟩⟩,by simp[intOf];omega⟩
     ·obtain rfl:q=x.strings.length:=by omega
      have hDn2:Hid (∀ c,Rc=.ok c→R=.ok (copyAt w2 pl.code.toNat c)):=zh fun c hc=>by rw[hs2];exact hDn.out w1 c hstA.out hc
      have hCf2:Hid (∀ e,Rc=.error e→R=.error e):=zh fun e he=>hCf.out w1 e hstA.out he
      have hQo:=hCo.out.kept hk2 ⟨hCo.out.lt,hqo.1⟩
      have n6:=hQo.cell 6
      have n8:=hQo.cell 8
      have n9:=hQo.cell 9
      simp only[obCells,gAr,gC0,gCs] at n6 n8 n9
      have hwB:=zh (hw2.alloc (.cells #[.int .i64 x.calls,.int .i64 x.places] 3))
      have hkB:=zh (hk2.alloc (fun p hp=>Nat.lt_of_lt_of_le hp.1 hk2.size) (.cells #[.int .i64 x.calls,.int .i64 x.places] 3))
      have hH:=zh (Blk.new wr 3 #[.int .i64 x.calls,.int .i64 x.places])
      have hghg:Hid (wr.heap.size≠gw):=zh (by have:=hk2.size;omega)
      have hRw:=zh (hcod.out.below (hKB.out _ (hKK.out _ hkB.out)))
      have hls:=zh hl2
      clear hDn hCf hPs hs2 hw2 hk2 hQo hl2 hl1' hcod
      go_wp2_with fail
      clear n6 n8 n9
      generalize World.alloc _ _=wh at *
      generalize wr.heap.size=gh at *
      have hKh:Hid (∀ w',Kept (fun p=>p<wh.heap.size∧p≠gw) wh w'→Kept (fun p=>p<wa.heap.size∧p≠gw) wa w'):=zh fun w' hk=>Kept.trans hkB.out (hk.mono fun p hp=>⟨Nat.lt_of_lt_of_le hp.1 hkB.out.size,hp.2⟩)
      go_loopw [17,131] (fun cv kv wr=>∃ (k:Nat) (cl:List Int),kv=.int .i64 k∧k≤2∧Hid (Row .u32 wr cv cl∧(k=0→cl=x.code)∧(k=1→s.im.fillC i x.code x.calls=.ok cl)∧(k=2→Rc=.ok cl)∧U32s cl∧cl.length=x.code.length∧LWd wr gw w2∧Kept (fun p=>p<wh.heap.size∧p≠gw) wh wr)) (fun _ kv _=>2-(intOf kv).toNat)
      case atStart=>exact⟨0,x.code,rfl,by omega,zh ⟨hRw.out,fun _=>rfl,fun h=>absurd h (by decide),fun h=>absurd h (by decide),f10.out,rfl,hwB.out,Kept.refl _ _⟩⟩
      case round=>
       clear hRw hwB
       obtain⟨k,cl,rfl,hk,hI⟩:=hrel
       obtain⟨hrw,hc0,hc1',hc2,hu,hcl0,hw3,hk3⟩:=hI.out
       have hcl8:cl.length≤8192:=by omega
       have hcl1:1≤cl.length:=by omega
       have hclm:pl.code+(cl.length:Int)≤ws.length:=by omega
       have hcl:=zh hcl0
       clear hI hcl0
       obtain⟨-,Ac,cc,rfl,-⟩:=id hrw
       by_cases hlt2:(k:Int)<2
       ·obtain⟨hd,hdc,hdI,hFok,hFno⟩:∃ hd:Int,wr.cell? ⟨gh,k,none⟩=some (.int .i64 hd)∧I64 hd∧Hid (∀ c2,s.im.fillC i cl hd=.ok c2→(k+1=0→c2=x.code)∧(k+1=1→s.im.fillC i x.code x.calls=.ok c2)∧(k+1=2→Rc=.ok c2))∧Hid (∀ e,s.im.fillC i cl hd=.error e→Rc=.error e):=by
         have hHk:=hH.out.kept hk3 ⟨hH.out.lt,hghg.out⟩
         rcases (show k=0∨k=1 by omega) with rfl | rfl
         ·have:=hc0 rfl
          subst this
          exact⟨x.calls,hHk.cell 0,hff.out.calls,zh fun c2 h=>⟨fun h=>absurd h (by decide),fun _=>h,fun h=>absurd h (by decide)⟩,zh fun e h=>hcd1.out e h⟩
         ·have:=hcd2.out cl (hc1' rfl)
          exact⟨x.places,hHk.cell 1,hff.out.places,zh fun c2 h=>⟨fun h=>absurd h (by decide),fun h=>absurd h (by decide),fun _=>this.trans h⟩,zh fun e h=>this.trans h⟩
        have hKa:=hKh.out wr hk3
        have hqp5:=hCp.out.kept hKa ⟨hCp.out.lt,hqo.2⟩
        have LK:=zh (hlks.out wr.drew (hKK.out _ hKa.drew))
        have x5:=hqp5.cell 5
        simp only[plCells,gAr,gC0,gCs] at x5
        have hqp5h:=zh hqp5
        have hrwh:=zh hrw
        have huh:=zh hu
        have hw3h:=zh hw3
        have hk3h:=zh hk3
        have hfl:=hfil.out cl hd
        have hfln2:=zh (hfln.out cl hd)
        have hdI0:=hdI.1
        have hdI1:=hdI.2
        clear hrw hu hw3 hk3 hKa hqp5 hc0 hc1' hc2 hdI
        go_upto_region 23 with fail
        refine wp_region_F (fun w'=>w'.cell? ⟨qp,5,none⟩=some (.int .i64 pl.code)) 13 (by kernel_rfl) ?_
        have S0:wr.drew.cell? ⟨qp,5,none⟩=some (.int .i64 pl.code):=x5
        refine hfTake 0 (v:=?_) ?_ S0 ?_
        rotate_left
        ·(intro _ h;(try dsimp only at h);go_simp<;>with_reducible rfl)
        try simp only[Act.put,sAp,sA0,sAs]
        refine hfTake 1 (v:=?_) ?_ S0 ?_
        rotate_left
        ·(intro _ h;(try dsimp only at h);go_simp<;>with_reducible rfl)
        try simp only[Act.put,sAp,sA0,sAs]
        refine hfTake 2 (v:=?_) ?_ S0 ?_
        rotate_left
        ·(intro _ h;(try dsimp only at h);go_simp<;>with_reducible rfl)
        try simp only[Act.put,sAp,sA0,sAs]
        refine hfTake 3 (v:=?_) ?_ S0 ?_
        rotate_left
        ·(intro _ h;(try dsimp only at h);go_simp<;>with_reducible rfl)
        try simp only[Act.put,sAp,sA0,sAs]
        refine hfTake 4 (v:=?_) ?_ S0 ?_
        rotate_left
        ·(intro _ h;(try dsimp only at h);go_simp<;>with_reducible rfl)
        try simp only[Act.put,sAp,sA0,sAs]
        refine hfTake 5 (v:=?_) ?_ S0 ?_
        rotate_left
        ·(intro _ h;(try dsimp only at h);go_simp<;>with_reducible rfl)
        try simp only[Act.put,sAp,sA0,sAs]
        refine hfTake 6 (v:=?_) ?_ S0 ?_
        rotate_left
        ·(intro _ h;(try dsimp only at h);go_simp<;>with_reducible rfl)
        try simp only[Act.put,sAp,sA0,sAs]
        refine hfRdy 7 (by kernel_rfl) rfl fun K hK=>?_
        go_simp
        refine LK.out.mono ?_
        rintro e w5 ⟨b5,N5,rfl,hm5,hb5⟩
        have x5':w5.cell? ⟨qp,5,none⟩=some (.int .i64 pl.code):=by
         have:=(hqp5h.out.drew.below hb5 hqp5h.out.drew.lt).cell 5
         simpa [plCells] using this
        have hw5:=zh (hw3h.out.drew.below hb5)
        have hk5:=zh (hk3h.out.drew.below hb5 (fun p hp=>Nat.lt_of_lt_of_le hp.1 hk3h.out.size))
        have hr5:=zh ((show Row .u32 wr.drew _ cl from hrwh.out).below hb5)
        have hm5:=zh hm5
        refine hK.out _ _ (fun _=>x5') ?_
        clear hK K S0 hb5 hw3h hk3h hrwh LK hqp5h x5
        try simp only[Act.put,sAp,sA0,sAs]
        refine hfRdy 8 (by kernel_rfl) rfl fun K hK=>?_
        go_simp
        refine(fix_fill cl hd pl.code _ (.map (some b5)) N5 Dl w5 hr5.out huh.out (by omega) (Or.inr ⟨b5,rfl,hm5.out⟩) hdI0 hdI1 (by omega) (by omega)).mono ?_
        rintro e w6 ⟨⟨v6,rfl,own6⟩,hb6⟩
        have x6:w6.cell? ⟨qp,5,none⟩=some (.int .i64 pl.code):=(hb6.cell (p:=⟨qp,5,none⟩) (by have h1:=hk5.out.size;have h2:=hkB.out.size;have h3:=hCp.out.lt;show qp<_;omega)).trans x5'
        have hw6:=zh (hw5.out.below hb6)
        have hk6:=zh (hk5.out.below hb6 (fun p hp=>Nat.lt_of_lt_of_le hp.1 hk5.out.size))
        have own6:=zh own6
        refine hK.out _ _ (fun _=>x6) ?_
        clear hK K x5' hb6 hw5 hk5 hr5 hm5
        try simp only[Act.put,sAp,sA0,sAs]
        obtain⟨S0,hS0d⟩:∃ h:w6.cell? ⟨qp,5,none⟩=some (.int .i64 pl.code),True:=⟨x6,trivial⟩
        refine hfTake 9 (v:=?_) ?_ S0 ?_
        rotate_left
        ·(intro _ h;(try dsimp only at h);go_simp<;>with_reducible rfl)
        try simp only[Act.put,sAp,sA0,sAs]
        refine hfTake 10 (v:=?_) ?_ S0 ?_
        rotate_left
        ·(intro _ h;(try dsimp only at h);go_simp<;>with_reducible rfl)
        try simp only[Act.put,sAp,sA0,sAs]
        refine hfTake 11 (v:=?_) ?_ S0 ?_
        rotate_left
        ·(intro _ h;(try dsimp only at h);go_simp<;>with_reducible rfl)
        try simp only[Act.put,sAp,sA0,sAs]
        refine hfRdy 12 (by kernel_rfl) rfl fun K hK=>?_
        go_simp
        refine hK.out _ _ (fun _=>S0) ?_
        clear hK K
        try simp only[Act.put,sAp,sA0,sAs]
        refine hfRdy 13 (by kernel_rfl) rfl fun K hK=>?_
        go_simp
        refine hK.out _ _ (fun h=>absurd rfl h) ?_
        clear hK K
        try simp only[Act.put,sAp,sA0,sAs]
        refine wpAnyF_done (by kernel_rfl) ?_ _
        clear S0 x6 hS0d
        by_cases hfe:Fx.ferr cl hd pl.code Dl=0
        ·rw[if_pos hfe] at hfl
         have hFk:=zh (hFok.out _ hfl)
         have hcl2:=zh (hfln2.out _ huh.out hfl)
         rw[hfe]
         generalize Fx.flist cl hd pl.code Dl=c2 at *
         have hfeh:=zh hfe
         clear hfe hfl
         go_wp2_with (go_at_call 48;refine(want_ok _ _).mono ?_;rintro e w7 ⟨rfl,rfl⟩)
         exact⟨⟨k+1,c2,by go_num,by omega,zh ⟨row_of_own own6.out,hFk.out.1,hFk.out.2.1,hFk.out.2.2,hcl2.out.1,hcl2.out.2.trans hcl.out,hw6.out,hk6.out⟩⟩,by simp[intOf];omega⟩
        ·rw[if_neg hfe] at hfl
         have hRe:=zh (hCf2.out 250 (hFno.out 250 hfl))
         have hfe2:(Fx.ferr cl hd pl.code Dl==0)=false:=by rw[beq_eq_false_iff_ne];exact hfe
         generalize Fx.ferr cl hd pl.code Dl=fe at *
         have hKz:=zh (hKK.out _ (hKh.out _ hk6.out))
         clear hfl
         go_wp2_with fail
         refine(want_no 250 _).mono ?_
         rintro e w7 ⟨rfl,rfl⟩
         exact⟨rfl,PutEnd.no hRe.out hKz.out⟩
       ·obtain rfl:k=2:=by omega
        have hRr:=hDn2.out cl (hc2 rfl)
        obtain⟨mc,hmc⟩:∃ mc:Nat,pl.code=mc:=⟨pl.code.toNat,by omega⟩
        rw[hmc,Int.toNat_natCast] at hRr
        have hqp5:=hCp.out.kept (hKh.out wr hk3) ⟨hCp.out.lt,hqo.2⟩
        have x5:=hqp5.cell 5
        simp only[plCells,gAr,gC0,gCs] at x5
        rw[hmc] at x5
        have hmcl:mc+cl.length≤ws.length:=by omega
        have hmclt:mc<ws.length:=by omega
        obtain⟨-,Ac',cc',e1,hcells⟩:=hrw
        injection e1 with e1 _ e3
        subst e1 e3
        obtain⟨ad,rfl,had,-⟩:=hcells 0 (by omega)
        have hls2:=hls.out
        have hsrc:Hid (∀ j v,(cl.map (Value.int .u32))[j]?=some v→wr.cell? (ad.add j)=some v):=zh fun j v hj=>by
         rw[List.getElem?_map] at hj
         cases hcj:cl[j]? with
         | none=>rw[hcj] at hj;cases hj
         | some y=>
          rw[hcj] at hj
          have hjl:=(List.getElem?_eq_some_iff.1 hcj).1
          obtain⟨ad',e,-,hy⟩:=hcells j hjl
          injection e with e
          subst e
          rw[hy,List.getD_eq_getElem?_getD,hcj]
          simpa using hj
        have hw3h:=zh hw3
        have hk3h:=zh hk3
        have hRrh:=zh hRr
        clear hRr hqp5 hcells hc0 hc1' hc2 hu hw3 hk3 hDn2 hCf2 hmc had
        have hcp:Hid (LWd (wr.setRow gw (((w2.map (Value.int .u32)).toArray.toList.take mc++((cl.map (Value.int .u32))++(w2.map (Value.int .u32)).toArray.toList.drop (mc+(cl.map (Value.int .u32)).length))).toArray)) gw (copyAt w2 mc cl)):=zh (by
         have h1:=setRow_heap wr gw _ (((w2.map (Value.int .u32)).toArray.toList.take mc++((cl.map (Value.int .u32))++(w2.map (Value.int .u32)).toArray.toList.drop (mc+(cl.map (Value.int .u32)).length))).toArray) _ _ hw3h.out
         unfold LWd Blk
         rw[h1]
         unfold copyAt
         simp[List.map_append,List.map_take,List.map_drop])
        have hkz:=zh (hKK.out _ (hKh.out _ (hk3h.out.setRow (g:=gw) (fun hS=>hS.2 rfl) (((w2.map (Value.int .u32)).toArray.toList.take mc++((cl.map (Value.int .u32))++(w2.map (Value.int .u32)).toArray.toList.drop (mc+(cl.map (Value.int .u32)).length))).toArray))))
        have hfit:Hid (mc+(cl.map (Value.int .u32)).length≤(w2.map (Value.int .u32)).toArray.size):=zh (by rw[List.length_map,List.size_toArray,List.length_map,hls2];exact hmcl)
        have hmin:Hid ((cl.map (Value.int .u32)).length=Nat.min cl.length (ws.length-mc)):=zh (by rw[List.length_map];exact(Nat.min_eq_left (by omega)).symm)
        have hone:Hid (∀ v∈cl.map (Value.int .u32),v.oneCell'=true):=zh (by intro v hv;obtain⟨y,-,rfl⟩:=List.mem_map.1 hv;rfl)
        clear hls2
        go_upto_region 27 with fail
        go_wp2_with ((refine wpList_copy_own rfl (.tmp 155) (.tmp 156) 30 30 rfl 37 Tryz.underlying30 (by kernel_rfl) gw mc (ws.length-mc) (ws.length-mc) ad cl.length cc rfl rfl (w2.map (Value.int .u32)).toArray 37 hw3h.out (cl.map (Value.int .u32)) hmin.out hsrc.out hfit.out hone.out ?_);generalize World.setRow _ _ _=wz at *)
        go_end0
        exact PutEnd.yes hRrh.out hcp.out hkz.out
end Go.Proofs.YtceflhffilldeaaGreat
