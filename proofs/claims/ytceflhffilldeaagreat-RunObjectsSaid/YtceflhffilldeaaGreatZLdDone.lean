/-
  Joined: ZLdDone.
-/
import Derived.Great.CaseRows
import Derived.Test.YtceflhffilldeaaGreatZFill
set_option linter.unusedVariables false
set_option linter.unusedSimpArgs false
set_option maxRecDepth 100000
set_option maxHeartbeats 16000000
namespace Go.Proofs.YtceflhffilldeaaGreat
open Go.RowKit ObjL Ldr Go.Maps Go.WideMaps
def ldW (w:World) (sp:Nat):World:=((w.alloc (.cells #[.int .i64 0] 34)).alloc (.map #[] 0)).alloc (.cells #[.pointer (some ⟨sp,0,none⟩),.map (some (w.heap.size+1)),.int .i64 0,.slice none 0 0] ldT)
theorem ldW_size (w:World) (sp:Nat):(ldW w sp).heap.size=w.heap.size+3:=by simp[ldW]
theorem ldW_below (w:World) (sp:Nat):Below w.heap.size w (ldW w sp):=(((Below.refl _ _).alloc (Nat.le_refl _) _).alloc (by simp) _).alloc (by simp;omega) _
theorem ldW_err (w:World) (sp:Nat):Blk (ldW w sp) w.heap.size 34 #[.int .i64 0]:=((Blk.new w 34 #[.int .i64 0]).alloc _).alloc _
theorem ldW_at (w:World) (sp:Nat):LdAt 0 0 (w.heap.size+1) (w.heap.size+1+1) (w.heap.size+1) sp (ldW w sp) 0 (.map []) (.slice none 0 0) [] LS.none_:=by
 have h1:(w.alloc (.cells #[.int .i64 0] 34)).heap.size=w.heap.size+1:=by simp
 have h2:((w.alloc (.cells #[.int .i64 0] 34)).alloc (.map #[] 0)).heap.size=w.heap.size+1+1:=by simp
 have hm:SMap ((w.alloc (.cells #[.int .i64 0] 34)).alloc (.map #[] 0)) (w.heap.size+1) 0 (.map []):=by
  have:=World.ownsMap_made (H:=Unit) (P:=Tryz.prog) (k:=9) (w.alloc (.cells #[.int .i64 0] 34)) (plainElem Tryz.prog 3)
  rw[h1] at this
  exact this
 refine⟨?_,hm.below ((Below.refl _ _).alloc (Nat.le_refl _) _),fun t=>rfl,World.ownsRow_nil _ _ _ _,rfl,fun x hx=>absurd hx (by simp),by show (0:Int)+0≤2*0;omega,by show (0:Int)+0≤0;omega,none_ok,by omega,Nat.le_refl _⟩
 have:=Blk.new ((w.alloc (.cells #[.int .i64 0] 34)).alloc (.map #[] 0)) ldT #[.pointer (some ⟨sp,0,none⟩),.map (some (w.heap.size+1)),.int .i64 0,.slice none 0 0]
 rw[h2] at this
 exact this
theorem ldW_load (G:Files) (sp:Nat) (w:World) (hG:GetOk G w.heap.size sp w) (name:List UInt8) (hn:name.length≤100000) :
  Calls Tryz.prog 46 #[.pointer (some ⟨w.heap.size+1+1,0,none⟩),.string (txt name)] (ldW w sp) (LdEnd 0 0 (w.heap.size+1) (w.heap.size+1+1) (w.heap.size+1) sp (ldW w sp) (.slice none 0 0) (Ldr.load G 17 name LS.none_)):=
 ld_load G (w.heap.size+1) sp (ldW w sp) (fun w' hb nm hnm=>hG w' ((ldW_below w sp).trans (hb.mono (by omega))) nm hnm) 17 0 0 _ _ 0 _ _ [] LS.none_ (ldW w sp) (ldW_at w sp) (Below.refl _ _) (by rw[ldW_size];omega) (by show (17:Int)≤0+17;omega) name hn
theorem loaded_err (G:Files) (sp:Nat) (w:World) (hG:GetOk G w.heap.size sp w) (name:List UInt8) (hn:name.length≤100000) (what:Value) (x:Int) (hl:Ldr.load G 17 name LS.none_=.error x) :
  Calls Tryz.prog 27 #[.pointer (some ⟨sp,0,none⟩),.string (txt name),what] w fun e w'=>e=.returned (.int .i64 x)∧Below w.heap.size w w':=by
 have hmf:∀ (fn:Fn) (first cap:Array Value) (w:World),(Instr.makeFunc fn first cap).run Tryz.prog w=.ok (.func fn first cap) w:=fun _ _ _ _=>rfl
 have hmm:∀ W:World,(Instr.makeMap 95 none).run Tryz.prog W=.ok (.map (some W.heap.size)) (W.alloc (.map #[] 0)):=fun W=>rfl
 go_enter_defers Tryz.func27,Tryz.ntmps27
 have LL:=ldW_load G sp w hG name hn
 rw[hl] at LL
 have hB0:=zh (ldW_below w sp)
 have hE0:=zh (ldW_err w sp)
 have hLL:=zh LL
 clear LL
 unfold ldW at hLL hB0 hE0
 go_wp2_with fail
 refine hLL.out.mono ?_
 rintro e w' ⟨rfl,hb⟩
 have hE:=hE0.out.below hb (Nat.lt_succ_self _)
 have hB:=hB0.out.trans (hb.mono (Nat.le_succ _))
 refine leaves_cons (f:=45) (args:=#[.pointer (some ⟨w.heap.size,0,none⟩)]) (by simp) (by simp[go_sem]) ?_
 refine(catch_fault w.heap.size 0 x _ (hE.cell 0) (hE.frozen 0)).mono ?_
 rintro e u' w'' ⟨rfl,rfl,rfl⟩
 have hR:((w'.alloc (.cells #[.int .i64 x] 117)).setCell ⟨w.heap.size,0,none⟩ (.int .i64 x)).cell? ⟨w.heap.size,0,none⟩=some (.int .i64 x):=((hE.alloc (.cells #[.int .i64 x] 117)).set_ 0 (.int .i64 x)).cell 0
 have hBR:Below w.heap.size w ((w'.alloc (.cells #[.int .i64 x] 117)).setCell ⟨w.heap.size,0,none⟩ (.int .i64 x)):=(hB.alloc hB.size _).setCell (p:=⟨w.heap.size,0,none⟩) (Nat.le_refl _) _
 generalize (w'.alloc (.cells #[.int .i64 x] 117)).setCell ⟨w.heap.size,0,none⟩ (.int .i64 x)=wz at *
 have hBRh:=zh hBR
 clear hBR hB0 hE0 hLL hE hB
 simp[Leaves,settle,results,Tryz.results27,go_sem,hR]
 exact hBRh.out
end Go.Proofs.YtceflhffilldeaaGreat
namespace Go.Proofs.YtceflhffilldeaaGreat
open Go.RowKit ObjL Ldr Go.Maps Go.WideMaps
def WhatOk_load (G:Files) (sp:Nat) (w:World) (s':LS) (pa pb:Nat) (R:World→Prop):Prop:=
 ∀ (w1:World) (n:Nat) (D:DataW Unit) (vO:Value) (xs:List OM),LdAt 0 0 (w.heap.size+1) (w.heap.size+1+1) (w.heap.size+1) sp w1 n D vO xs s'→Below (w.heap.size+1) (ldW w sp) w1 →
  Calls Tryz.prog 28 #[.pointer (some ⟨w.heap.size+1+1,0,none⟩),.pointer (some ⟨pa,0,none⟩),.pointer (some ⟨pb,0,none⟩)] w1 fun e w2=>e=.returned (.tuple #[])∧R w2∧Blk w2 w.heap.size 34 #[.int .i64 0]
theorem loaded_ok_load (G:Files) (sp:Nat) (w:World) (hG:GetOk G w.heap.size sp w) (name:List UInt8) (hn:name.length≤100000) (pa pb:Nat) (k:Int) (s':LS) (hl:Ldr.load G 17 name LS.none_=.ok (k,s')) (R:World→Prop)
  (hR:∀ w2 u,R w2→Blk w2 w.heap.size 34 #[.int .i64 0]→R (w2.setCell ⟨w.heap.size,0,none⟩ u)) (WH:WhatOk_load G sp w s' pa pb R) :
  Calls Tryz.prog 27 #[.pointer (some ⟨sp,0,none⟩),.string (txt name),.func (.func 28) #[] #[.pointer (some ⟨pa,0,none⟩),.pointer (some ⟨pb,0,none⟩)]] w fun e w'=>e=.returned (.int .i64 0)∧R w':=by
 have hmf:∀ (fn:Fn) (first cap:Array Value) (w:World),(Instr.makeFunc fn first cap).run Tryz.prog w=.ok (.func fn first cap) w:=fun _ _ _ _=>rfl
 have hmm:∀ W:World,(Instr.makeMap 95 none).run Tryz.prog W=.ok (.map (some W.heap.size)) (W.alloc (.map #[] 0)):=fun W=>rfl
 go_enter_defers Tryz.func27,Tryz.ntmps27
 have LL:=ldW_load G sp w hG name hn
 rw[hl] at LL
 have hE0:=zh (ldW_err w sp)
 have hLL:=zh LL
 have hWH:=zh WH
 clear LL WH
 unfold WhatOk_load at hWH
 unfold ldW at hLL hE0 hWH
 go_wp2_with fail
 refine hLL.out.mono ?_
 rintro e w1 ⟨rfl,hb,n',D',vO',xs',hA,hK⟩
 have hA:=zh hA
 clear hLL hK
 go_wp2_with fail
 refine(hWH.out w1 n' D' vO' xs' hA.out hb).mono ?_
 rintro e w2 ⟨rfl,hR2,hB2⟩
 have c0:=hB2.cell 0
 have f0:=hB2.frozen 0
 simp only[List.getElem?_toArray,List.getElem?_cons_zero] at c0
 have hR9:(w2.setCell ⟨w.heap.size,0,none⟩ (.int .i64 0)).cell? ⟨w.heap.size,0,none⟩=some (.int .i64 0):=(hB2.set_ 0 (.int .i64 0)).cell 0
 have hRz:=zh (hR w2 (.int .i64 0) hR2 hB2)
 have hBz:=zh (hB2.set_ 0 (.int .i64 0))
 clear hR2 hB2 hR hWH hA hb
 go_wp2_with fail
 clear hBz
 refine leaves_cons (f:=45) (args:=#[.pointer (some ⟨w.heap.size,0,none⟩)]) (by simp) (by simp[go_sem]) ?_
 refine(catch_none w.heap.size _).mono ?_
 rintro e u' w'' ⟨rfl,rfl,rfl⟩
 generalize w2.setCell ⟨w.heap.size,0,none⟩ (.int .i64 0)=wz at *
 simp[Leaves,settle,results,Tryz.results27,go_sem,hR9]
 exact hRz.out
end Go.Proofs.YtceflhffilldeaaGreat
namespace Go.Proofs.YtceflhffilldeaaGreat
open Go.RowKit ObjL Ldr Go.Maps Go.WideMaps
end Go.Proofs.YtceflhffilldeaaGreat
namespace Go.Proofs.YtceflhffilldeaaGreat
open Go.RowKit ObjL Ldr Go.Maps Go.WideMaps
end Go.Proofs.YtceflhffilldeaaGreat
