/-
  Joined: ZLdDone.
-/
import Derived.Great.CaseRows
import Derived.Test.YtceflhffilldeaaGreatZFill
set_option linter.unusedVariables false
set_option linter.unusedSimpArgs false
set_option maxRecDepth 100000
set_option maxHeartbeats 16000000
namespace Go.Proofs.YtceflhffilldeaaGreat
open Go.RowKit ObjL Ldr Go.Maps Go.WideMaps
def ldW (w:World) (sp:Nat):World:=((w.alloc (.cells #[.int .i64 0] 34)).alloc (.map #[] 0)).alloc (.cells #[.pointer (some ⟨sp,0,none⟩),.map (some (w.heap.size+1)),.int .i64 0,.slice none 0 0] ldT)
theorem ldW_size (w:World) (sp:Nat):(ldW w sp).heap.size=w.heap.size+3:=by simp[ldW]
theorem ldW_below (w:World) (sp:Nat):Below w.heap.size w (ldW w sp):=(((Below.refl _ _).alloc (Nat.le_refl _) _).alloc (by simp) _).alloc (by simp;omega) _
theorem ldW_err (w:World) (sp:Nat):Blk (ldW w sp) w.heap.size 34 #[.int .i64 0]:=((Blk.new w 34 #[.int .i64 0]).alloc _).alloc _
theorem ldW_at (w:World) (sp:Nat):LdAt 0 0 (w.heap.size+1) (w.heap.size+1+1) (w.heap.size+1) sp (ldW w sp) 0 (.map []) (.slice none 0 0) [] LS.none_:=by
 have h1:(w.alloc (.cells #[.int .i64 0] 34)).heap.size=w.heap.size+1:=by simp
 have h2:((w.alloc (.cells #[.int .i64 0] 34)).alloc (.map #[] 0)).heap.size=w.heap.size+1+1:=by simp
 have hm:SMap ((w.alloc (.cells #[.int .i64 0] 34)).alloc (.map #[] 0)) (w.heap.size+1) 0 (.map []):=by
  have:=World.ownsMap_made (H:=Unit) (P:=Tryz.prog) (k:=9) (w.alloc (.cells #[.int .i64 0] 34)) (plainElem Tryz.prog 3)
  rw[h1] at this
  exact this
 refine⟨?_,hm.below ((Below.refl _ _).alloc (Nat.le_refl _) _),fun t=>rfl,World.ownsRow_nil _ _ _ _,rfl,fun x hx=>absurd hx (by simp),by show (0:Int)+0≤2*0;omega,by show (0:Int)+0≤0;omega,none_ok,by omega,Nat.le_refl _⟩
 have:=Blk.new ((w.alloc (.cells #[.int .i64 0] 34)).alloc (.map #[] 0)) ldT #[.pointer (some ⟨sp,0,none⟩),.map (some (w.heap.size+1)),.int .i64 0,.slice none 0 0]
 rw[h2] at this
 exact this
theorem ldW_load (G:Files) (sp:Nat) (w:World) (hG:GetOk G w.heap.size sp w) (name:List UInt8) (hn:name.length≤100000) :
  Calls Tryz.prog 46 #[.pointer (some ⟨w.heap.size+1+1,0,none⟩),.string (txt name)] (ldW w sp) (LdEnd 0 0 (w.heap.size+1) (w.heap.size+1+1) (w.heap.size+1) sp (ldW w sp) (.slice none 0 0) (Ldr.load G 17 name LS.none_)):=
 ld_load G (w.heap.size+1) sp (ldW w sp) (fun w' hb nm hnm=>hG w' ((ldW_below w sp).trans (hb.mono (by omega))) nm hnm) 17 0 0 _ _ 0 _ _ [] LS.none_ (ldW w sp) (ldW_at w sp) (Below.refl _ _) (by rw[ldW_size];omega) (by show (17:Int)≤0+17;omega) name hn
theorem loaded_err (G:Files) (sp:Nat) (w:World) (hG:GetOk G w.heap.size sp w) (name:List UInt8) (hn:name.length≤100000) (what:Value) (x:Int) (hl:Ldr.load G 17 name LS.none_=.error x) :
  Calls Tryz.prog 27 #[.pointer (some ⟨sp,0,none⟩),.string (txt name),what] w fun e w'=>e=.returned (.int .i64 x)∧Below w.heap.size w w':=by
 have hmf:∀ (fn:Fn) (first cap:Array Value) (w:World),(Instr.makeFunc fn first cap).run Tryz.prog w=.ok (.func fn first cap) w:=fun _ _ _ _=>rfl
 have hmm:∀ W:World,(Instr.makeMap 95 none).run Tryz.prog W=.ok (.map (some W.heap.size)) (W.alloc (.map #[] 0)):=fun W=>rfl
 go_enter_defers Tryz.func27,Tryz.ntmps27
 have LL:=ldW_load G sp w hG name hn
 rw[hl] at LL
 have hB0:=zh (ldW_below w sp)
 have hE0:=zh (ldW_err w sp)
 have hLL:=zh LL
 clear LL
 unfold ldW at hLL hB0 hE0
 go_wp2_with fail
 refine hLL.out.mono ?_
 rintro e w' ⟨rfl,hb⟩
 have hE:=hE0.out.below hb (Nat.lt_succ_self _)
 have hB:=hB0.out.trans (hb.mono (Nat.le_succ _))
 refine leaves_cons (f:=45) (args:=#[.pointer (some ⟨w.heap.size,0,none⟩)]) (by simp) (by simp[go_sem]) ?_
 refine(catch_fault w.heap.size 0 x _ (hE.cell 0) (hE.frozen 0)).mono ?_
 rintro e u' w'' ⟨rfl,rfl,rfl⟩
 have hR:((w'.alloc (.cells #[.int .i64 x] 117)).setCell ⟨w.heap.size,0,none⟩ (.int .i64 x)).cell? ⟨w.heap.size,0,none⟩=some (.int .i64 x):=((hE.alloc (.cells #[.int .i64 x] 117)).set_ 0 (.int .i64 x)).cell 0
 have hBR:Below w.heap.size w ((w'.alloc (.cells #[.int .i64 x] 117)).setCell ⟨w.heap.size,0,none⟩ (.int .i64 x)):=(hB.alloc hB.size _).setCell (p:=⟨w.heap.size,0,none⟩) (Nat.le_refl _) _
 generalize (w'.alloc (.cells #[.int .i64 x] 117)).setCell ⟨w.heap.size,0,none⟩ (.int .i64 x)=wz at *
 have hBRh:=zh hBR
 clear hBR hB0 hE0 hLL hE hB
 simp[Leaves,settle,results,Tryz.results27,go_sem,hR]
 exact hBRh.out
end Go.Proofs.YtceflhffilldeaaGreat
namespace Go.Proofs.YtceflhffilldeaaGreat
open Go.RowKit ObjL Ldr Go.Maps Go.WideMaps
def WhatOk_load (G:Files) (sp:Nat) (w:World) (s':LS) (pa pb:Nat) (R:World→Prop):Prop:=
 ∀ (w1:World) (n:Nat) (D:DataW Unit) (vO:Value) (xs:List OM),LdAt 0 0 (w.heap.size+1) (w.heap.size+1+1) (w.heap.size+1) sp w1 n D vO xs s'→Below (w.heap.size+1) (ldW w sp) w1 →
  Calls Tryz.prog 28 #[.pointer (some ⟨w.heap.size+1+1,0,none⟩),.pointer (some ⟨pa,0,none⟩),.pointer (some ⟨pb,0,none⟩)] w1 fun e w2=>e=.returned (.tuple #[])∧R w2∧Blk w2 w.heap.size 34 #[.int .i64 0]
theorem loaded_ok_load (G:Files) (sp:Nat) (w:World) (hG:GetOk G w.heap.size sp w) (name:List UInt8) (hn:name.length≤100000) (pa pb:Nat) (k:Int) (s':LS) (hl:Ldr.load G 17 name LS.none_=.ok (k,s')) (R:World→Prop)
  (hR:∀ w2 u,R w2→Blk w2 w.heap.size 34 #[.int .i64 0]→R (w2.setCell ⟨w.heap.size,0,none⟩ u)) (WH:WhatOk_load G sp w s' pa pb R) :
  Calls Tryz.prog 27 #[.pointer (some ⟨sp,0,none⟩),.string (txt name),.func (.func 28) #[] #[.pointer (some ⟨pa,0,none⟩),.pointer (some ⟨pb,0,none⟩)]] w fun e w'=>e=.returned (.int .i64 0)∧R w':=by
 have hmf:∀ (fn:Fn) (first cap:Array Value) (w:World),(Instr.makeFunc fn first cap).run Tryz.prog w=.ok (.func fn first cap) w:=fun _ _ _ _=>rfl
 have hmm:∀ W:World,(Instr.makeMap 95 none).run Tryz.prog W=.ok (.map (some W.heap.size)) (W.alloc (.map #[] 0)):=fun W=>rfl
 go_enter_defers Tryz.func27,Tryz.ntmps27
 have LL:=ldW_load G sp w hG name hn
 rw[hl] at LL
 have hE0:=zh (ldW_err w sp)
 have hLL:=zh LL
 have hWH:=zh WH
 clear LL WH
 unfold WhatOk_load at hWH
 unfold ldW at hLL hE0 hWH
 go_wp2_with fail
 refine hLL.out.mono ?_
 rintro e w1 ⟨rfl,hb,n',D',vO',xs',hA,hK⟩
 have hA:=zh hA
 clear hLL hK
 go_wp2_with fail
 refine(hWH.out w1 n' D' vO' xs' hA.out hb).mono ?_
 rintro e w2 ⟨rfl,hR2,hB2⟩
 have c0:=hB2.cell 0
 have f0:=hB2.frozen 0
 simp only[List.getElem?_toArray,List.getElem?_cons_zero] at c0
 have hR9:(w2.setCell ⟨w.heap.size,0,none⟩ (.int .i64 0)).cell? ⟨w.heap.size,0,none⟩=some (.int .i64 0):=(hB2.set_ 0 (.int .i64 0)).cell 0
 have hRz:=zh (hR w2 (.int .i64 0) hR2 hB2)
 have hBz:=zh (hB2.set_ 0 (.int .i64 0))
 clear hR2 hB2 hR hWH hA hb
 go_wp2_with fail
 clear hBz
 refine leaves_cons (f:=45) (args:=#[.pointer (some ⟨w.heap.size,0,none⟩)]) (by simp) (by simp[go_sem]) ?_
 refine(catch_none w.heap.size _).mono ?_
 rintro e u' w'' ⟨rfl,rfl,rfl⟩
 generalize w2.setCell ⟨w.heap.size,0,none⟩ (.int .i64 0)=wz at *
 simp[Leaves,settle,results,Tryz.results27,go_sem,hR9]
 exact hRz.out
def WhatOk_order (G:Files) (sp:Nat) (w:World) (s':LS) (pa:Nat) (R:World→Prop):Prop:=
 ∀ (w1:World) (n:Nat) (D:DataW Unit) (vO:Value) (xs:List OM),LdAt 0 0 (w.heap.size+1) (w.heap.size+1+1) (w.heap.size+1) sp w1 n D vO xs s'→Below (w.heap.size+1) (ldW w sp) w1 →
  Calls Tryz.prog 36 #[.pointer (some ⟨w.heap.size+1+1,0,none⟩),.pointer (some ⟨pa,0,none⟩)] w1 fun e w2=>e=.returned (.tuple #[])∧R w2∧Blk w2 w.heap.size 34 #[.int .i64 0]
theorem loaded_ok_order (G:Files) (sp:Nat) (w:World) (hG:GetOk G w.heap.size sp w) (name:List UInt8) (hn:name.length≤100000) (pa:Nat) (k:Int) (s':LS) (hl:Ldr.load G 17 name LS.none_=.ok (k,s')) (R:World→Prop)
  (hR:∀ w2 u,R w2→Blk w2 w.heap.size 34 #[.int .i64 0]→R (w2.setCell ⟨w.heap.size,0,none⟩ u)) (WH:WhatOk_order G sp w s' pa R) :
  Calls Tryz.prog 27 #[.pointer (some ⟨sp,0,none⟩),.string (txt name),.func (.func 36) #[] #[.pointer (some ⟨pa,0,none⟩)]] w fun e w'=>e=.returned (.int .i64 0)∧R w':=by
 have hmf:∀ (fn:Fn) (first cap:Array Value) (w:World),(Instr.makeFunc fn first cap).run Tryz.prog w=.ok (.func fn first cap) w:=fun _ _ _ _=>rfl
 have hmm:∀ W:World,(Instr.makeMap 95 none).run Tryz.prog W=.ok (.map (some W.heap.size)) (W.alloc (.map #[] 0)):=fun W=>rfl
 go_enter_defers Tryz.func27,Tryz.ntmps27
 have LL:=ldW_load G sp w hG name hn
 rw[hl] at LL
 have hE0:=zh (ldW_err w sp)
 have hLL:=zh LL
 have hWH:=zh WH
 clear LL WH
 unfold WhatOk_order at hWH
 unfold ldW at hLL hE0 hWH
 go_wp2_with fail
 refine hLL.out.mono ?_
 rintro e w1 ⟨rfl,hb,n',D',vO',xs',hA,hK⟩
 have hA:=zh hA
 clear hLL hK
 go_wp2_with fail
 refine(hWH.out w1 n' D' vO' xs' hA.out hb).mono ?_
 rintro e w2 ⟨rfl,hR2,hB2⟩
 have c0:=hB2.cell 0
 have f0:=hB2.frozen 0
 simp only[List.getElem?_toArray,List.getElem?_cons_zero] at c0
 have hR9:(w2.setCell ⟨w.heap.size,0,none⟩ (.int .i64 0)).cell? ⟨w.heap.size,0,none⟩=some (.int .i64 0):=(hB2.set_ 0 (.int .i64 0)).cell 0
 have hRz:=zh (hR w2 (.int .i64 0) hR2 hB2)
 have hBz:=zh (hB2.set_ 0 (.int .i64 0))
 clear hR2 hB2 hR hWH hA hb
 go_wp2_with fail
 clear hBz
 refine leaves_cons (f:=45) (args:=#[.pointer (some ⟨w.heap.size,0,none⟩)]) (by simp) (by simp[go_sem]) ?_
 refine(catch_none w.heap.size _).mono ?_
 rintro e u' w'' ⟨rfl,rfl,rfl⟩
 generalize w2.setCell ⟨w.heap.size,0,none⟩ (.int .i64 0)=wz at *
 simp[Leaves,settle,results,Tryz.results27,go_sem,hR9]
 exact hRz.out
end Go.Proofs.YtceflhffilldeaaGreat
namespace Go.Proofs.YtceflhffilldeaaGreat
open Go.RowKit ObjL Ldr Go.Maps Go.WideMaps
theorem ord_info:(Tryz.prog.info? 9).map (fun i=>(i.zero,i.size,i.bytes))=some (some (.string ⟨#[]⟩),1,16):=by kernel_rfl
theorem ord_news (w:World) (t:TypeId) (v:Value):∀ (j:Nat) (u:Value),[v][j]?=some u→(w.alloc (.cells #[v] t)).cell? ((⟨w.heap.size,0,none⟩:Addr).add j)=some u:=by
 intro j u hj
 rw[tk_add,Nat.zero_add,cell_of_row _ _ j _ _ _ (heap_alloc_new w (.cells #[v] t))]
 simpa using hj
def ordNames (xs:List OM):List Value:=xs.map fun x=>.string (txt x.o.name)
def OrdEnd (w:World) (pa:Nat) (xs:List OM) (w':World):Prop:=
 ∃ v,Blk w' pa 57 #[v]∧w'.ownsRow w.heap.size 9 1 v xs.length (ordNames xs)∧Kept (fun k=>k<w.heap.size∧k≠pa) w w'
theorem ordNames_snoc (xs:List OM) (k:Nat) (h:k<xs.length):ordNames (xs.take (k+1))=ordNames (xs.take k)++[.string (txt xs[k].o.name)]:=by
 unfold ordNames
 rw[List.take_add_one,List.getElem?_eq_getElem h,List.map_append]
 rfl
theorem order_closure (c d B lp mb sp n:Nat) (D:DataW Unit) (vO:Value) (xs:List OM) (s:LS) (w:World) (h:LdAt c d B lp mb sp w n D vO xs s) (pa:Nat) (hP:Blk w pa 57 #[.slice none 0 0]) :
  Calls Tryz.prog 36 #[.pointer (some ⟨lp,0,none⟩),.pointer (some ⟨pa,0,none⟩)] w fun e w'=>e=.returned (.tuple #[])∧OrdEnd w pa xs w':=by
 have c3:=h.blk.cell 3
 simp only[gAr,gC0,gCs] at c3
 have hxl:xs.length≤16:=by have h1:=h.ok.few;have h2:=h.ok.high;rw[h.objs,List.length_map] at h1;omega
 have hrow:=zh h.row
 have hoo:=zh h.oms
 obtain⟨A,kk,rfl⟩:=h.slice
 obtain⟨i0,hi0,hz0,hz1,hz2⟩:=info_parts ord_info
 have hpa:=hP.lt
 have hPh:=zh hP
 clear h hP
 go_enter Tryz.func36,Tryz.ntmps36
 go_wp2_with fail
 go_loopw [10] (fun i wr=>∃ (k:Nat) (v:Value),i=.int .i64 k∧k≤xs.length∧Hid (Blk wr pa 57 #[v]∧wr.ownsRow w.heap.size 9 1 v k (ordNames (xs.take k))∧Kept (fun j=>j<w.heap.size∧j≠pa) w wr)) (fun i _=>xs.length-(intOf i).toNat)
 case atStart=>exact⟨0,.slice none 0 0,rfl,by omega,zh ⟨hPh.out,World.ownsRow_nil _ _ _ _,Kept.refl _ _⟩⟩
 case round=>
  obtain⟨k,v,rfl,hk,hI⟩:=hrel
  obtain⟨i1,i2,i3⟩:=hI.out
  obtain⟨vA,vc,rfl⟩:=own_slice i2
  by_cases hlt:(k:Int)<(xs.length:Int)
  ·have hkl:k<xs.length:=by omega
   have hrw:=row_kept hrow.out i3 (fun q hq=>⟨(hrow.out.lt q hq).2,fun e=>row_ne hrow.out hPh.out (by decide) (by rw[hq,e])⟩)
   obtain⟨g,rfl⟩:∃ g,A=some ⟨g,0,none⟩:=by
    rcases hrw.2 with ⟨h1,h2⟩ | ⟨g,cap,cur,h1,-⟩
    ·exact absurd h2 (by omega)
    ·injection h1 with h1;exact⟨g,h1⟩
   have hr:wr.rangeAt g (k*10) xs[k].cells:=fun j u hu=>by
    have hj:j<10:=by have:=(List.getElem?_eq_some_iff.1 hu).1;rwa [OM.cells_len] at this
    have h1:=hrw.cells (g:=g) rfl (k*10+j) u (by rw[← hu];exact flat10 xs k j hkl hj)
    rw[tk_add] at h1
    rw[show 0+(k*10+j)=k*10+j by omega] at h1
    exact h1
   have hrh:=zh hr
   obtain⟨⟨-,AU,cU,ex1,-⟩,⟨-,AD,cD,ex2,-⟩,⟨-,AC,cC,ex3,-⟩,⟨-,AE,cE,ex4,-⟩⟩:=id (hoo.out xs[k] (List.getElem_mem hkl)).parts
   have ox1:xs[k].U.oneCell'=true:=by rw[ex1];rfl
   have ox2:xs[k].D.oneCell'=true:=by rw[ex2];rfl
   have ox3:xs[k].C.oneCell'=true:=by rw[ex3];rfl
   have ox4:xs[k].E.oneCell'=true:=by rw[ex4];rfl
   clear ex1 ex2 ex3 ex4
   have hsn:=ordNames_snoc xs k hkl
   have hx:Hid (xs[k].cells=(obCells xs[k].o xs[k].U xs[k].D xs[k].C xs[k].E).toList):=zh rfl
   generalize xs[k]=x at *
   have s1:Hid ((Tryz.prog.info? obT).map (·.size)=some (obCells x.o x.U x.D x.C x.E).size):=zh (by kernel_rfl)
   have s2:Hid ((Tryz.prog.info? obT).map (·.size)=some x.cells.length):=zh (by kernel_rfl)
   have s3:Hid ((#[.string ⟨#[]⟩,.int .u32 0,.slice none 0 0,.slice none 0 0,.int .i64 0,.string ⟨#[]⟩,.slice none 0 0,.slice none 0 0,.int .i64 0,.int .i64 0]:Array Value).size=(obCells x.o x.U x.D x.C x.E).size):=zh rfl
   have s4:Hid ((obCells x.o x.U x.D x.C x.E).all (·.oneCell')=true):=zh (by simp only[obCells,List.all_toArray,List.all_cons,List.all_nil,ox1,ox2,ox3,ox4];simp[Value.oneCell'])
   have hpw:pa<wr.heap.size:=i1.lt
   have L2:=Blk.new wr obT (obCells x.o x.U x.D x.C x.E)
   have i1b:=i1.alloc (.cells (obCells x.o x.U x.D x.C x.E) obT)
   have i2b:=zh (i2.alloc (.cells (obCells x.o x.U x.D x.C x.E) obT))
   have i3b:=zh (i3.alloc (fun j hj=>Nat.lt_of_lt_of_le hj.1 i3.size) (.cells (obCells x.o x.U x.D x.C x.E) obT))
   have hws:=zh i3.size
   clear hr hrw i1 i2 i3 hI
   go_upto_region 3 with (first | (refine wpList_load_mid rfl 48 (.tmp 12) rfl g (k*10) rfl x.cells _ hrh.out Tryz.underlying48 rfl s2.out ?_) | (refine wpList_store_last rfl 48 (.tmp 4) (.tmp 13) rfl wr (obCells x.o x.U x.D x.C x.E) _ _ rfl rfl rfl s1.out s3.out s4.out ?_))
   have n0:(wr.alloc (.cells (obCells x.o x.U x.D x.C x.E) obT)).cell? ⟨wr.heap.size,0,none⟩=some (.string (txt x.o.name)):=L2.cell 0
   have hgl:=L2.lt
   generalize wr.alloc (.cells (obCells x.o x.U x.D x.C x.E) obT)=W at *
   generalize wr.heap.size=gz at *
   have hsn2:=zh hsn
   have i1h:=zh i1b
   have cA:=i1b.cell 0
   have fA:=i1b.frozen 0
   simp only[List.getElem?_toArray,List.getElem?_cons_zero] at cA
   have hpW:pa<W.heap.size:=i1b.lt
   clear i1b hsn hx L2
   go_wp2_with (at_builtin;go_loud (refine wpList_append_own _ rfl (.tmp 14) (.tmp 17) 57 rfl w.heap.size 9 i0 _ 1 16 Tryz.underlying57 hi0 hz0 hz1 hz2 rfl (by omega) _ k _ rfl (i2b.out.alloc _) ⟨W.heap.size,0,none⟩ 1 1 [.string (txt x.o.name)] rfl rfl (ord_news W _ _) (by simp[Value.oneCell']) (by simp only[maxLen];omega) (by omega) (by have h1:=hws.out;simp;omega) ?_);intro v3 w3 hown3 hg3 _;obtain⟨A3,k3,rfl⟩:=own_slice hown3;have G3:=zh hg3;have O3:=zh hown3;have L3:=zh ((i1h.out.alloc (.cells #[.string (txt x.o.name)] 9)).grown hg3 (row_ne i2b.out i1h.out (by decide)));have cB:=L3.out.cell 0;have fB:=L3.out.frozen 0;simp only[List.getElem?_toArray,List.getElem?_cons_zero] at cB)
   have K3:=(i3b.out.alloc (fun j hj=>Nat.lt_trans (Nat.lt_of_lt_of_le hj.1 hws.out) hgl) (.cells #[.string (txt x.o.name)] 9)).grown G3.out (fun j hj=>by have h1:=hj.1;have h2:=hws.out;simp;omega) (fun q hq hS=>by have h1:=(i2b.out.lt q hq).1;have h2:=hS.1;omega)
   have K4:=K3.setCell (p:=⟨pa,0,none⟩) (fun hS=>hS.2 rfl) (.slice A3 (k+1) k3)
   have o4:=row_kept O3.out ((Kept.refl (fun j=>j≠pa) w3).setCell (p:=⟨pa,0,none⟩) (fun hS=>hS rfl) (.slice A3 (k+1) k3)) (fun q hq e=>row_ne O3.out L3.out (by decide) (by rw[hq,e]))
   rw[← hsn2.out] at o4
   exact⟨⟨k+1,_,by go_num,by omega,zh ⟨L3.out.set_ 0 (.slice A3 (k+1) k3),o4,K4⟩⟩,by simp[intOf];omega⟩
  ·obtain rfl:k=xs.length:=by omega
   rw[List.take_length] at i2
   have hE:OrdEnd w pa xs wr:=⟨_,i1,i2,i3⟩
   clear i1 i2 i3 hI
   go_wp2_with fail
   go_end0
   exact⟨rfl,hE⟩
end Go.Proofs.YtceflhffilldeaaGreat
namespace Go.Proofs.YtceflhffilldeaaGreat
open Go.RowKit ObjL Ldr Go.Maps Go.WideMaps
def nameVs (l:List Ob):List Value:=l.map fun o=>.string (txt o.name)
def OrdR (w:World) (pa:Nat) (s':LS) (w2:World):Prop:=
 ∃ v,Blk w2 pa 57 #[v]∧w2.ownsRow w.heap.size 9 1 v s'.objs.length (nameVs s'.objs)∧Kept (fun k=>k<w.heap.size∧k≠pa) w w2
theorem order_what (G:Files) (sp:Nat) (w:World) (pa:Nat) (s':LS) (hP:Blk w pa 57 #[.slice none 0 0]):WhatOk_order G sp w s' pa (OrdR w pa s'):=by
 intro w1 n D vO xs hA hb
 have hpl:=hP.lt
 have hB1:Below w.heap.size w w1:=(ldW_below w sp).trans (hb.mono (Nat.le_succ _))
 have hP1:=hP.below hB1 hpl
 have hE1:=(ldW_err w sp).below hb (Nat.lt_succ_self _)
 have ho:=hA.objs
 refine(order_closure _ _ _ _ _ _ _ _ _ _ _ w1 hA pa hP1).mono ?_
 rintro e w2 ⟨rfl,v,h1,h2,h3⟩
 refine⟨rfl,⟨v,h1,?_,?_⟩,hE1.kept h3 ⟨hE1.lt,by omega⟩⟩
 ·have h4:=own_from h2 hB1.size
  have e1:nameVs s'.objs=ordNames xs:=by rw[ho];unfold nameVs ordNames;rw[List.map_map];rfl
  have e2:s'.objs.length=xs.length:=by rw[ho,List.length_map]
  rw[e1,e2]
  exact h4
 ·exact Kept.trans ((Kept.refl (fun k=>k<w.heap.size∧k≠pa) w).below hB1 fun k hk=>hk.1) (h3.mono fun k hk=>⟨Nat.lt_of_lt_of_le hk.1 hB1.size,hk.2⟩)
theorem ordR_err {w:World} {pa:Nat} {s':LS} (hpa:pa<w.heap.size) (w2:World) (u:Value) (h:OrdR w pa s' w2) (hB:Blk w2 w.heap.size 34 #[.int .i64 0]):OrdR w pa s' (w2.setCell ⟨w.heap.size,0,none⟩ u):=by
 obtain⟨v,h1,h2,h3⟩:=h
 have hK:Kept (fun k=>k≠w.heap.size) w2 (w2.setCell ⟨w.heap.size,0,none⟩ u):=(Kept.refl _ w2).setCell (p:=⟨w.heap.size,0,none⟩) (fun hS=>hS rfl) _
 refine⟨v,h1.kept hK (by omega),row_kept h2 hK (fun k hk e=>?_),h3.setCell (p:=⟨w.heap.size,0,none⟩) (fun hS=>Nat.lt_irrefl _ hS.1) _⟩
 have:=row_ne h2 hB (by decide)
 exact this (by rw[hk,e])
def OrdAns (base:Nat) (r:Except Int (Int×LS)) (v:Value) (c:Int) (w':World):Prop:=
 match r with
 | .error x=>c=x∧v=.slice none 0 0
 | .ok (_,s')=>c=0∧w'.ownsRow base 9 1 v s'.objs.length (nameVs s'.objs)
theorem order_ok (G:Files) (sp:Nat) (w:World) (hG:GetOk G w.heap.size sp w) (name:List UInt8) (hn:name.length≤100000) :
  Calls Tryz.prog 14 #[.pointer (some ⟨sp,0,none⟩),.string (txt name)] w fun e w'=>(∃ v c,e=.returned (.tuple #[v,.int .i64 c])∧OrdAns w.heap.size (Ldr.load G 17 name LS.none_) v c w')∧Below w.heap.size w w':=by
 have hmf:∀ (fn:Fn) (first cap:Array Value) (w:World),(Instr.makeFunc fn first cap).run Tryz.prog w=.ok (.func fn first cap) w:=fun _ _ _ _=>rfl
 have hP:=zh (Blk.new w 57 #[.slice none 0 0])
 have hsz:(w.alloc (.cells #[.slice none 0 0] 57)).heap.size=w.heap.size+1:=by simp
 have hB:=zh ((Below.refl w.heap.size w).alloc (Nat.le_refl _) (.cells #[.slice none 0 0] 57))
 have hG2:Hid (GetOk G (w.alloc (.cells #[.slice none 0 0] 57)).heap.size sp (w.alloc (.cells #[.slice none 0 0] 57))):=zh fun w' hb nm hnm=>hG w' (hB.out.trans (hb.mono (by rw[hsz];omega))) nm hnm
 have hszh:=zh hsz
 clear hsz hG
 go_enter Tryz.func14,Tryz.ntmps14
 go_wp2_with fail
 generalize w.alloc (.cells #[.slice none 0 0] 57)=W at *
 cases hl:Ldr.load G 17 name LS.none_ with
 | error x=>
  refine(loaded_err G sp W hG2.out name hn _ x hl).mono ?_
  rintro e w' ⟨rfl,hb⟩
  have c0:=(hP.out.below hb hP.out.lt).cell 0
  simp only[List.getElem?_toArray,List.getElem?_cons_zero] at c0
  have hBB:=zh (hB.out.trans (hb.mono (by rw[hszh.out];omega)))
  clear hb hP hB
  go_wp2_with fail
  go_ret2
  exact⟨⟨_,_,rfl,show OrdAns _ _ _ _ _ by rw[hl];exact⟨rfl,rfl⟩⟩,hBB.out⟩
 | ok r=>
  obtain⟨k,s'⟩:=r
  refine(loaded_ok_order G sp W hG2.out name hn w.heap.size k s' hl (OrdR W w.heap.size s') (ordR_err hP.out.lt) (order_what G sp W w.heap.size s' hP.out)).mono ?_
  rintro e w' ⟨rfl,v,h1,h2,h3⟩
  have c0:=h1.cell 0
  simp only[List.getElem?_toArray,List.getElem?_cons_zero] at c0
  have hBB:=zh (show Below w.heap.size w w' from hB.out.trans ⟨h3.os,h3.tape,h3.output,h3.size,fun q hq=>h3.block q ⟨by rw[hszh.out];omega,by omega⟩⟩)
  have h2h:=zh (own_from h2 (show w.heap.size≤W.heap.size by rw[hszh.out];omega))
  clear h1 h2 h3 hP hB
  go_wp2_with fail
  go_ret2
  exact⟨⟨_,_,rfl,show OrdAns _ _ _ _ _ by rw[hl];exact⟨rfl,h2h.out⟩⟩,hBB.out⟩
end Go.Proofs.YtceflhffilldeaaGreat
