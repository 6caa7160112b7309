/-
  Joined: ZLdTop.
-/
import Derived.Test.YtceflhffilldeaaGreatZLdImg
import Derived.Test.YtceflhffilldeaaGreatZLdDone
set_option linter.unusedVariables false
set_option linter.unusedSimpArgs false
set_option maxRecDepth 100000
set_option maxHeartbeats 16000000
namespace Go.Proofs.YtceflhffilldeaaGreat
open Go.RowKit ObjL Ldr Go.Maps Go.WideMaps
def imCells (gw gm cm n W:Nat):Array Value:=#[.slice (some ⟨gw,0,none⟩) W W,.int .i64 8,.slice (some ⟨gm,0,none⟩) n cm]
def ClosEnd (w:World) (pb:Nat) (m:Im) (r:Except Int (List Int)) (e:Ending) (w':World):Prop:=
 match r with
 | .error c=>e=faultE c∧Below w.heap.size w w'
 | .ok ws=>e=.returned (.tuple #[])∧∃ gw gm cm,Blk w' pb imT (imCells gw gm cm m.n ws.length)∧LWd w' gw ws∧MRow w' gm m∧w.heap.size≤gw∧w.heap.size≤gm∧Kept (fun p=>p<w.heap.size∧p≠pb) w w'
theorem load_closure (B lp mb sp n:Nat) (D:DataW Unit) (vO:Value) (xs:List OM) (s:LS) (w:World) (h:LdAt 0 0 B lp mb sp w n D vO xs s) (hm:s.im.Ok) (pa pb:Nat) (W S:Int) (hW:256≤W) (hW2:W≤65536) (hS:64≤S) (hSW:S<W)
  (hA:Blk w pa 24 #[.int .i64 W,.int .i64 S]) (hB:Blk w pb imT #[.slice none 0 0,.int .i64 0,.slice none 0 0]) :
  Calls Tryz.prog 28 #[.pointer (some ⟨lp,0,none⟩),.pointer (some ⟨pa,0,none⟩),.pointer (some ⟨pb,0,none⟩)] w (ClosEnd w pb s.im (s.im.image W S)):=by
 have IMO:=image_ok B lp mb sp n D vO xs s w h hm W S hW hW2 hS hSW
 have a0:w.cell? ⟨pa,0,none⟩=some (.int .i64 W):=by have:=hA.cell 0;simpa using this
 have a1:w.cell? ⟨pa,1,none⟩=some (.int .i64 S):=by have:=hA.cell 1;simpa using this
 have hBh:=zh hB
 clear h hm hA hB
 go_enter Tryz.func28,Tryz.ntmps28
 generalize hR:s.im.image W S=R at *
 clear hR
 cases R with
 | error c=>
  have IMO:=zh IMO
  go_wp2_with fail
  refine IMO.out.mono ?_
  rintro e w1 ⟨rfl,hb⟩
  exact⟨rfl,rfl,hb⟩
 | ok ws=>
  have IMO:=zh IMO
  go_wp2_with fail
  refine IMO.out.mono ?_
  rintro e w1 ⟨⟨gw,gm,cm,rfl,hw,hMM,hgw,hgm⟩,hb⟩
  have hB1:=hBh.out.below hb hBh.out.lt
  have hpl:=hBh.out.lt
  have y0:w1.cell? ⟨pb,0,none⟩=some (.slice none 0 0):=by have:=hB1.cell 0;simpa using this
  have y1:w1.cell? ⟨pb,1,none⟩=some (.int .i64 0):=by have:=hB1.cell 1;simpa using this
  have y2:w1.cell? ⟨pb,2,none⟩=some (.slice none 0 0):=by have:=hB1.cell 2;simpa using this
  have z0:=hB1.frozen 0
  have z1:=hB1.frozen 1
  have z2:=hB1.frozen 2
  have b4f:=zh (((hB1.set_ 0 (.slice (some ⟨gw,0,none⟩) ws.length ws.length)).set_ 1 (.int .i64 8)).set_ 2 (.slice (some ⟨gm,0,none⟩) s.im.n cm))
  have hKf:Hid (Kept (fun p=>p≠pb) w1 (((w1.setCell ⟨pb,0,none⟩ (.slice (some ⟨gw,0,none⟩) ws.length ws.length)).setCell ⟨pb,1,none⟩ (.int .i64 8)).setCell ⟨pb,2,none⟩ (.slice (some ⟨gm,0,none⟩) s.im.n cm))):=zh ((((Kept.refl (fun p=>p≠pb) w1).setCell (p:=⟨pb,0,none⟩) (fun hS=>hS rfl) _).setCell (p:=⟨pb,1,none⟩) (fun hS=>hS rfl) _).setCell (p:=⟨pb,2,none⟩) (fun hS=>hS rfl) _)
  have hWf:=zh (hw.kept hKf.out (by omega))
  have hMf:Hid (MRow _ gm s.im):=zh ⟨Nat.lt_of_lt_of_le hMM.lt hKf.out.size,fun j u hu=>(hKf.out.cell (p:=⟨gm,0+j,none⟩) (by show gm≠pb;omega)).trans (hMM.cells j u hu)⟩
  have hKz:=zh (Kept.trans ((Kept.refl (fun p=>p<w.heap.size∧p≠pb) w).below hb fun p hp=>hp.1) (hKf.out.mono fun p hp=>hp.2))
  clear hB1 hw hMM hb hKf
  go_wp2_with fail
  generalize World.setCell _ _ _=wz at *
  go_end0
  exact⟨rfl,gw,gm,cm,b4f.out,hWf.out,hMf.out,hgw,hgm,hKz.out⟩
def WhatNo_load (sp:Nat) (w:World) (s':LS) (pa pb:Nat) (c:Int):Prop:=
 ∀ (w1:World) (n:Nat) (D:DataW Unit) (vO:Value) (xs:List OM),LdAt 0 0 (w.heap.size+1) (w.heap.size+1+1) (w.heap.size+1) sp w1 n D vO xs s'→Below (w.heap.size+1) (ldW w sp) w1 →
  Calls Tryz.prog 28 #[.pointer (some ⟨w.heap.size+1+1,0,none⟩),.pointer (some ⟨pa,0,none⟩),.pointer (some ⟨pb,0,none⟩)] w1 fun e w2=>e=faultE c∧Blk w2 w.heap.size 34 #[.int .i64 0]∧Below w.heap.size w w2
theorem loaded_no_load (G:Files) (sp:Nat) (w:World) (hG:GetOk G w.heap.size sp w) (name:List UInt8) (hn:name.length≤100000) (pa pb:Nat) (k:Int) (s':LS) (hl:Ldr.load G 17 name LS.none_=.ok (k,s')) (c:Int) (WH:WhatNo_load sp w s' pa pb c) :
  Calls Tryz.prog 27 #[.pointer (some ⟨sp,0,none⟩),.string (txt name),.func (.func 28) #[] #[.pointer (some ⟨pa,0,none⟩),.pointer (some ⟨pb,0,none⟩)]] w fun e w'=>e=.returned (.int .i64 c)∧Below w.heap.size w w':=by
 have hmf:∀ (fn:Fn) (first cap:Array Value) (w:World),(Instr.makeFunc fn first cap).run Tryz.prog w=.ok (.func fn first cap) w:=fun _ _ _ _=>rfl
 have hmm:∀ W:World,(Instr.makeMap 95 none).run Tryz.prog W=.ok (.map (some W.heap.size)) (W.alloc (.map #[] 0)):=fun W=>rfl
 go_enter_defers Tryz.func27,Tryz.ntmps27
 have LL:=ldW_load G sp w hG name hn
 rw[hl] at LL
 have hLL:=zh LL
 have hWH:=zh WH
 clear LL WH
 unfold WhatNo_load at hWH
 unfold ldW at hLL hWH
 go_wp2_with fail
 refine hLL.out.mono ?_
 rintro e w1 ⟨rfl,hb,n',D',vO',xs',hA,hK⟩
 have hA:=zh hA
 clear hLL hK
 go_wp2_with fail
 refine(hWH.out w1 n' D' vO' xs' hA.out hb).mono ?_
 rintro e w' ⟨rfl,hE,hB⟩
 clear hWH hA hb
 refine leaves_cons (f:=45) (args:=#[.pointer (some ⟨w.heap.size,0,none⟩)]) (by simp) (by simp[go_sem]) ?_
 refine(catch_fault w.heap.size 0 c _ (hE.cell 0) (hE.frozen 0)).mono ?_
 rintro e u' w'' ⟨rfl,rfl,rfl⟩
 have hR:((w'.alloc (.cells #[.int .i64 c] 117)).setCell ⟨w.heap.size,0,none⟩ (.int .i64 c)).cell? ⟨w.heap.size,0,none⟩=some (.int .i64 c):=((hE.alloc (.cells #[.int .i64 c] 117)).set_ 0 (.int .i64 c)).cell 0
 have hBR:Below w.heap.size w ((w'.alloc (.cells #[.int .i64 c] 117)).setCell ⟨w.heap.size,0,none⟩ (.int .i64 c)):=(hB.alloc hB.size _).setCell (p:=⟨w.heap.size,0,none⟩) (Nat.le_refl _) _
 generalize (w'.alloc (.cells #[.int .i64 c] 117)).setCell ⟨w.heap.size,0,none⟩ (.int .i64 c)=wz at *
 have hBRh:=zh hBR
 clear hBR hE hB
 simp[Leaves,settle,results,Tryz.results27,go_sem,hR]
 exact hBRh.out
end Go.Proofs.YtceflhffilldeaaGreat
namespace Go.Proofs.YtceflhffilldeaaGreat
open Go.RowKit ObjL Ldr Go.Maps Go.WideMaps
namespace Ldr
theorem usesL_ne {ld:List UInt8→LS→Except Int (Int×LS)} (h:∀ nm s e,ld nm s=.error e→e≠0):∀ (l:List (List UInt8×Int)) (s:LS) (e:Int),usesL ld l s=.error e→e≠0
 | [],s,e,he=>by rw[usesL] at he;cases he
 | u::l,s,e,he=>by
  rw[usesL] at he
  cases h1:ld u.1 s with
  | error x=>rw[h1] at he;injection he with he;rw[← he];exact h _ _ _ h1
  | ok r=>
   obtain⟨k,s1⟩:=r
   rw[h1] at he
   dsimp only at he
   split at he
   ·exact usesL_ne h l s1 e he
   ·injection he with he;rw[← he];decide
theorem load_ne (G:Files):∀ (f:Nat) (nm:List UInt8) (s:LS) (e:Int),load G f nm s=.error e→e≠0
 | 0,nm,s,e,he=>by rw[load] at he;injection he with he;rw[← he];decide
 | f+1,nm,s,e,he=>by
  rw[load] at he
  split at he
  ·cases he
  ·split at he
   ·split at he
    ·split at he
     ·injection he with he;rw[← he];decide
     ·split at he
      ·injection he with he;rw[← he];decide
      ·split at he
       ·split at he
        ·rename_i x hx
         injection he with he
         rw[← he]
         exact usesL_ne (load_ne G f) _ _ _ hx
        ·cases he
       ·injection he with he;rw[← he];decide
    ·injection he with he;rw[← he];decide
   ·injection he with he;rw[← he];decide
def badRoom (W S:Int):Bool:=decide (W<256) || decide (65536<W) || decide (S<64) || decide (W≤S)
def ldLoad (G:Files) (name:List UInt8) (W S:Int):Except Int (Im×List Int):=
 if badRoom W S=true then .error 1
 else match Ldr.load G 17 name LS.none_ with
  | .error e=>.error e
  | .ok r=>match r.2.im.image W S with
   | .error c=>.error c
   | .ok ws=>.ok (r.2.im,ws)
theorem ldLoad_ne {G:Files} {name:List UInt8} {W S c:Int} (h:ldLoad G name W S=.error c):c≠0:=by
 unfold ldLoad at h
 split at h
 ·injection h with h;rw[← h];decide
 ·cases hl:Ldr.load G 17 name LS.none_ with
  | error e=>rw[hl] at h;injection h with h;rw[← h];exact load_ne G 17 _ _ _ hl
  | ok r=>
   rw[hl] at h
   dsimp only at h
   cases hi:r.2.im.image W S with
   | error x=>
    rw[hi] at h
    injection h with h
    rw[← h]
    rcases image_err hi with e | e<;>rw[e]<;>decide
   | ok ws2=>rw[hi] at h;cases h
theorem ldLoad_inv {G:Files} {name:List UInt8} {W S:Int} {m:Im} {ws:List Int} (h:ldLoad G name W S=.ok (m,ws)):badRoom W S=false∧m.image W S=.ok ws∧(m.ob (m.n-1)).name=name:=by
 unfold ldLoad at h
 split at h
 ·cases h
 ·rename_i hb
  cases hl:Ldr.load G 17 name LS.none_ with
  | error e=>rw[hl] at h;cases h
  | ok r=>
   obtain⟨k,s'⟩:=r
   rw[hl] at h
   dsimp only at h
   cases hi:s'.im.image W S with
   | error c=>rw[hi] at h;cases h
   | ok ws2=>
    rw[hi] at h
    injection h with h
    injection h with h1 h2
    subst h1 h2
    exact⟨by simpa using hb,hi,load_name hl⟩
theorem ldLoad_bad {G:Files} {name:List UInt8} {W S:Int} (h:badRoom W S=true):ldLoad G name W S=.error 1:=by unfold ldLoad;rw[if_pos h]
theorem ldLoad_err {G:Files} {name:List UInt8} {W S e:Int} (h:badRoom W S=false) (h2:Ldr.load G 17 name LS.none_=.error e):ldLoad G name W S=.error e:=by unfold ldLoad;rw[if_neg (by rw[h];decide),h2]
theorem ldLoad_no {G:Files} {name:List UInt8} {W S c k:Int} {s':LS} (h:badRoom W S=false) (h2:Ldr.load G 17 name LS.none_=.ok (k,s')) (h3:s'.im.image W S=.error c):ldLoad G name W S=.error c:=by
 unfold ldLoad
 rw[if_neg (by rw[h];decide),h2]
 dsimp only
 rw[h3]
theorem ldLoad_ok {G:Files} {name:List UInt8} {W S k:Int} {s':LS} {ws:List Int} (h:badRoom W S=false) (h2:Ldr.load G 17 name LS.none_=.ok (k,s')) (h3:s'.im.image W S=.ok ws):ldLoad G name W S=.ok (s'.im,ws):=by
 unfold ldLoad
 rw[if_neg (by rw[h];decide),h2]
 dsimp only
 rw[h3]
end Ldr
def LdR (w:World) (pb:Nat) (m:Im) (ws:List Int) (w2:World):Prop:=
 ∃ gw gm cm,Blk w2 pb imT (imCells gw gm cm m.n ws.length)∧LWd w2 gw ws∧MRow w2 gm m∧w.heap.size<gw∧w.heap.size<gm∧Kept (fun p=>p<w.heap.size∧p≠pb) w w2∧m.Ok
theorem ldR_err {w:World} {pb:Nat} {m:Im} {ws:List Int} (hpb:pb<w.heap.size) (w2:World) (u:Value) (h:LdR w pb m ws w2) (hB:Blk w2 w.heap.size 34 #[.int .i64 0]):LdR w pb m ws (w2.setCell ⟨w.heap.size,0,none⟩ u):=by
 obtain⟨gw,gm,cm,h1,h2,h3,h4,h5,h6,h7⟩:=h
 have hK:Kept (fun k=>k≠w.heap.size) w2 (w2.setCell ⟨w.heap.size,0,none⟩ u):=(Kept.refl _ w2).setCell (p:=⟨w.heap.size,0,none⟩) (fun hS=>hS rfl) _
 exact⟨gw,gm,cm,h1.kept hK (by omega),h2.kept hK (by omega),⟨Nat.lt_of_lt_of_le h3.lt hK.size,fun j x hx=>(hK.cell (p:=⟨gm,0+j,none⟩) (by show gm≠_;omega)).trans (h3.cells j x hx)⟩,h4,h5,h6.setCell (p:=⟨w.heap.size,0,none⟩) (fun hS=>Nat.lt_irrefl _ hS.1) _,h7⟩
section
variable {G:Files} {sp pa pb:Nat} {w:World} {name:List UInt8} {k:Int} {s':LS} {W S:Int}
theorem load_at_w1 (hA:Blk w pa 24 #[.int .i64 W,.int .i64 S]) (hB:Blk w pb imT #[.slice none 0 0,.int .i64 0,.slice none 0 0]) (hl:Ldr.load G 17 name LS.none_=.ok (k,s')) (hr:badRoom W S=false)
  (w1:World) (n:Nat) (D:DataW Unit) (vO:Value) (xs:List OM) (h:LdAt 0 0 (w.heap.size+1) (w.heap.size+1+1) (w.heap.size+1) sp w1 n D vO xs s') (hb:Below (w.heap.size+1) (ldW w sp) w1) :
  Calls Tryz.prog 28 #[.pointer (some ⟨w.heap.size+1+1,0,none⟩),.pointer (some ⟨pa,0,none⟩),.pointer (some ⟨pb,0,none⟩)] w1 (ClosEnd w1 pb s'.im (s'.im.image W S)):=by
 unfold badRoom at hr
 simp only[Bool.or_eq_false_iff,decide_eq_false_iff_not] at hr
 have hB1:Below w.heap.size w w1:=(ldW_below w sp).trans (hb.mono (Nat.le_succ _))
 exact load_closure _ _ _ sp n D vO xs s' w1 h (load_im hl h.ok) pa pb W S (by omega) (by omega) (by omega) (by omega) (hA.below hB1 hA.lt) (hB.below hB1 hB.lt)
theorem load_what_ok (hA:Blk w pa 24 #[.int .i64 W,.int .i64 S]) (hB:Blk w pb imT #[.slice none 0 0,.int .i64 0,.slice none 0 0]) (hl:Ldr.load G 17 name LS.none_=.ok (k,s')) (hr:badRoom W S=false) {ws:List Int} (hi:s'.im.image W S=.ok ws) :
  WhatOk_load G sp w s' pa pb (LdR w pb s'.im ws):=by
 intro w1 n D vO xs h hb
 have hpb:=hB.lt
 have hB1:Below w.heap.size w w1:=(ldW_below w sp).trans (hb.mono (Nat.le_succ _))
 have hE1:=(ldW_err w sp).below hb (Nat.lt_succ_self _)
 have hs1:w.heap.size+3≤w1.heap.size:=by have h1:=hb.size;rw[ldW_size] at h1;exact h1
 have:=load_at_w1 hA hB hl hr w1 n D vO xs h hb
 rw[hi] at this
 refine this.mono ?_
 rintro e w2 ⟨rfl,gw,gm,cm,h1,h2,h3,h4,h5,h6⟩
 refine⟨rfl,⟨gw,gm,cm,h1,h2,h3,by omega,by omega,?_,load_im hl h.ok⟩,hE1.kept h6 ⟨hE1.lt,by omega⟩⟩
 exact Kept.trans ((Kept.refl (fun p=>p<w.heap.size∧p≠pb) w).below hB1 fun p hp=>hp.1) (h6.mono fun p hp=>⟨Nat.lt_of_lt_of_le hp.1 hB1.size,hp.2⟩)
theorem load_what_no (hA:Blk w pa 24 #[.int .i64 W,.int .i64 S]) (hB:Blk w pb imT #[.slice none 0 0,.int .i64 0,.slice none 0 0]) (hl:Ldr.load G 17 name LS.none_=.ok (k,s')) (hr:badRoom W S=false) {c:Int} (hi:s'.im.image W S=.error c) :
  WhatNo_load sp w s' pa pb c:=by
 intro w1 n D vO xs h hb
 have hB1:Below w.heap.size w w1:=(ldW_below w sp).trans (hb.mono (Nat.le_succ _))
 have hE1:=(ldW_err w sp).below hb (Nat.lt_succ_self _)
 have:=load_at_w1 hA hB hl hr w1 n D vO xs h hb
 rw[hi] at this
 refine this.mono ?_
 rintro e w2 ⟨rfl,h1⟩
 exact⟨rfl,hE1.below h1 hE1.lt,hB1.trans (h1.mono hB1.size)⟩
end
def LoadAns (r:Except Int (Im×List Int)) (e:Ending) (w':World):Prop:=
 match r with
 | .error c=>e=.returned (.tuple #[.agg #[.slice none 0 0,.int .i64 0,.slice none 0 0],.int .i64 c])
 | .ok (m,ws)=>∃ gw gm cm,e=.returned (.tuple #[.agg (imCells gw gm cm m.n ws.length),.int .i64 0])∧LWd w' gw ws∧MRow w' gm m∧m.Ok
theorem LoadAns.no {r:Except Int (Im×List Int)} {c:Int} {w':World} (h:r=.error c):LoadAns r (.returned (.tuple #[.agg #[.slice none 0 0,.int .i64 0,.slice none 0 0],.int .i64 c])) w':=by rw[h];exact rfl
theorem load_bad (G:Files) (sp:Nat) (w:World) (name:List UInt8) (W S:Int) (hr:badRoom W S=true) :
  Calls Tryz.prog 10 #[.pointer (some ⟨sp,0,none⟩),.string (txt name),.agg #[.int .i64 W,.int .i64 S]] w fun e w'=>LoadAns (ldLoad G name W S) e w'∧Below w.heap.size w w':=by
 have hL:=zh (ldLoad_bad (G:=G) (name:=name) hr)
 generalize ldLoad G name W S=R at *
 unfold badRoom at hr
 simp only[Bool.or_eq_true,decide_eq_true_eq] at hr
 go_enter Tryz.func10,Tryz.ntmps10
 have hB2:=zh (((Below.refl w.heap.size w).alloc (Nat.le_refl _) (.cells #[.int .i64 W,.int .i64 S] 24)).alloc (by simp) (.cells #[.slice none 0 0,.int .i64 0,.slice none 0 0] imT))
 have fin:Hid (LoadAns R (.returned (.tuple #[.agg #[.slice none 0 0,.int .i64 0,.slice none 0 0],.int .i64 1])) ((w.alloc (.cells #[.int .i64 W,.int .i64 S] 24)).alloc (.cells #[.slice none 0 0,.int .i64 0,.slice none 0 0] imT))):=zh (LoadAns.no hL.out)
 by_cases h1:W<256
 ·go_wp2_with fail
  exact bodyPost_ret (v:=.tuple #[.agg #[.slice none 0 0,.int .i64 0,.slice none 0 0],.int .i64 1]) (by simp only[results,Tryz.results10];go_simp) rfl ⟨fin.out,hB2.out⟩
 ·by_cases h2:65536<W
  ·go_wp2_with fail
   exact bodyPost_ret (v:=.tuple #[.agg #[.slice none 0 0,.int .i64 0,.slice none 0 0],.int .i64 1]) (by simp only[results,Tryz.results10];go_simp) rfl ⟨fin.out,hB2.out⟩
  ·by_cases h3:S<64
   ·go_wp2_with fail
    exact bodyPost_ret (v:=.tuple #[.agg #[.slice none 0 0,.int .i64 0,.slice none 0 0],.int .i64 1]) (by simp only[results,Tryz.results10];go_simp) rfl ⟨fin.out,hB2.out⟩
   ·have h4:W≤S:=by omega
    go_wp2_with fail
    exact bodyPost_ret (v:=.tuple #[.agg #[.slice none 0 0,.int .i64 0,.slice none 0 0],.int .i64 1]) (by simp only[results,Tryz.results10];go_simp) rfl ⟨fin.out,hB2.out⟩
theorem load_good (G:Files) (sp:Nat) (w:World) (hG:GetOk G w.heap.size sp w) (name:List UInt8) (hn:name.length≤100000) (W S:Int) (hr:badRoom W S=false) :
  Calls Tryz.prog 10 #[.pointer (some ⟨sp,0,none⟩),.string (txt name),.agg #[.int .i64 W,.int .i64 S]] w fun e w'=>LoadAns (ldLoad G name W S) e w'∧Below w.heap.size w w':=by
 have hmf:∀ (fn:Fn) (first cap:Array Value) (w:World),(Instr.makeFunc fn first cap).run Tryz.prog w=.ok (.func fn first cap) w:=fun _ _ _ _=>rfl
 have hrh:=zh hr
 unfold badRoom at hr
 simp only[Bool.or_eq_false_iff,decide_eq_false_iff_not] at hr
 obtain⟨⟨⟨h1,h2⟩,h3⟩,h4⟩:=hr
 have e1:(w.alloc (.cells #[.int .i64 W,.int .i64 S] 24)).heap.size=w.heap.size+1:=by simp
 have e2:((w.alloc (.cells #[.int .i64 W,.int .i64 S] 24)).alloc (.cells #[.slice none 0 0,.int .i64 0,.slice none 0 0] imT)).heap.size=w.heap.size+1+1:=by simp
 have e3:(((w.alloc (.cells #[.int .i64 W,.int .i64 S] 24)).alloc (.cells #[.slice none 0 0,.int .i64 0,.slice none 0 0] imT)).alloc (.cells #[.slice none 0 0,.int .i64 0,.slice none 0 0] imT)).heap.size=w.heap.size+1+1+1:=by simp
 have hA3:=((Blk.new w 24 #[.int .i64 W,.int .i64 S]).alloc (.cells #[.slice none 0 0,.int .i64 0,.slice none 0 0] imT)).alloc (.cells #[.slice none 0 0,.int .i64 0,.slice none 0 0] imT)
 have hT3:=(Blk.new (w.alloc (.cells #[.int .i64 W,.int .i64 S] 24)) imT #[.slice none 0 0,.int .i64 0,.slice none 0 0]).alloc (.cells #[.slice none 0 0,.int .i64 0,.slice none 0 0] imT)
 have hX3:=Blk.new ((w.alloc (.cells #[.int .i64 W,.int .i64 S] 24)).alloc (.cells #[.slice none 0 0,.int .i64 0,.slice none 0 0] imT)) imT #[.slice none 0 0,.int .i64 0,.slice none 0 0]
 rw[e1] at hT3
 rw[e2] at hX3
 have hB3:=(((Below.refl w.heap.size w).alloc (Nat.le_refl _) (.cells #[.int .i64 W,.int .i64 S] 24)).alloc (by rw[e1];omega) (.cells #[.slice none 0 0,.int .i64 0,.slice none 0 0] imT)).alloc (by rw[e2];omega) (.cells #[.slice none 0 0,.int .i64 0,.slice none 0 0] imT)
 have hG3:Hid (GetOk G (((w.alloc (.cells #[.int .i64 W,.int .i64 S] 24)).alloc (.cells #[.slice none 0 0,.int .i64 0,.slice none 0 0] imT)).alloc (.cells #[.slice none 0 0,.int .i64 0,.slice none 0 0] imT)).heap.size sp (((w.alloc (.cells #[.int .i64 W,.int .i64 S] 24)).alloc (.cells #[.slice none 0 0,.int .i64 0,.slice none 0 0] imT)).alloc (.cells #[.slice none 0 0,.int .i64 0,.slice none 0 0] imT))):=zh fun w' hb nm hnm=>hG w' (hB3.trans (hb.mono (by rw[e3];omega))) nm hnm
 have hA3:=zh hA3
 have hT3h:=zh hT3
 have hX3h:=zh hX3
 have hB3h:=zh hB3
 have e3h:=zh e3
 clear hT3 hX3 hB3 e1 e2 e3 hG
 go_enter Tryz.func10,Tryz.ntmps10
 go_wp2_with fail
 generalize ((w.alloc (.cells #[.int .i64 W,.int .i64 S] 24)).alloc (.cells #[.slice none 0 0,.int .i64 0,.slice none 0 0] imT)).alloc (.cells #[.slice none 0 0,.int .i64 0,.slice none 0 0] imT)=W3 at *
 obtain⟨gt,et⟩:∃ gt,gt=w.heap.size+1:=⟨_,rfl⟩
 obtain⟨gx,ex⟩:∃ gx,gx=w.heap.size+1+1:=⟨_,rfl⟩
 have hgo:w.heap.size<gt∧gt<gx:=by omega
 rw[← ex] at hX3h ⊢
 rw[← et] at hT3h ⊢
 clear et ex
 have hz3:W3.heap.size=w.heap.size+1+1+1:=e3h.out
 have hz3h:=zh hz3
 clear hz3 e3h
 have t0:∀ w',Below W3.heap.size W3 w'→w'.cell? ⟨gt,0,none⟩=some (.slice none 0 0)∧w'.cell? ⟨gt,1,none⟩=some (.int .i64 0)∧w'.cell? ⟨gt,2,none⟩=some (.slice none 0 0)∧w'.frozen? ⟨gt,0,none⟩=false∧w'.frozen? ⟨gt,1,none⟩=false∧w'.frozen? ⟨gt,2,none⟩=false:=fun w' hb=>by
  have h:=hT3h.out.below hb hT3h.out.lt
  exact⟨by have:=h.cell 0;simpa using this,by have:=h.cell 1;simpa using this,by have:=h.cell 2;simpa using this,h.frozen 0,h.frozen 1,h.frozen 2⟩
 have t0:=zh t0
 cases hl:Ldr.load G 17 name LS.none_ with
 | error x=>
  have hxn:=load_ne G 17 name LS.none_ x hl
  have hL:=zh (ldLoad_err hrh.out hl)
  refine(loaded_err G sp W3 hG3.out name hn _ x hl).mono ?_
  rintro e w' ⟨rfl,hb⟩
  obtain⟨y0,y1,y2,z0,z1,z2⟩:=t0.out w' hb
  have b4:=hT3h.out.below hb hT3h.out.lt
  have b4f:=((b4.set_ 0 (.slice none 0 0)).set_ 1 (.int .i64 0)).set_ 2 (.slice none 0 0)
  have r0:(((w'.setCell ⟨gt,0,none⟩ (.slice none 0 0)).setCell ⟨gt,1,none⟩ (.int .i64 0)).setCell ⟨gt,2,none⟩ (.slice none 0 0)).cell? ⟨gt,0,none⟩=some (.slice none 0 0):=by have:=b4f.cell 0;simpa using this
  have r1:(((w'.setCell ⟨gt,0,none⟩ (.slice none 0 0)).setCell ⟨gt,1,none⟩ (.int .i64 0)).setCell ⟨gt,2,none⟩ (.slice none 0 0)).cell? ⟨gt,1,none⟩=some (.int .i64 0):=by have:=b4f.cell 1;simpa using this
  have r2:(((w'.setCell ⟨gt,0,none⟩ (.slice none 0 0)).setCell ⟨gt,1,none⟩ (.int .i64 0)).setCell ⟨gt,2,none⟩ (.slice none 0 0)).cell? ⟨gt,2,none⟩=some (.slice none 0 0):=by have:=b4f.cell 2;simpa using this
  have hBf:=zh ((((hB3h.out.trans (hb.mono (by rw[hz3h.out];omega))).setCell (p:=⟨gt,0,none⟩) (by show w.heap.size≤gt;omega) (.slice none 0 0)).setCell (p:=⟨gt,1,none⟩) (by show w.heap.size≤gt;omega) (.int .i64 0)).setCell (p:=⟨gt,2,none⟩) (by show w.heap.size≤gt;omega) (.slice none 0 0))
  have fin:Hid (LoadAns (ldLoad G name W S) (.returned (.tuple #[.agg #[.slice none 0 0,.int .i64 0,.slice none 0 0],.int .i64 x])) (((w'.setCell ⟨gt,0,none⟩ (.slice none 0 0)).setCell ⟨gt,1,none⟩ (.int .i64 0)).setCell ⟨gt,2,none⟩ (.slice none 0 0))):=zh (LoadAns.no hL.out)
  have hxb:(x==0)=false:=by rw[beq_eq_false_iff_ne];exact hxn
  have hxb2:(x != 0)=true:=by rw[bne_iff_ne];exact hxn
  clear b4 b4f hb
  go_wp2_with fail
  exact bodyPost_ret (v:=.tuple #[.agg #[.slice none 0 0,.int .i64 0,.slice none 0 0],.int .i64 x]) (by simp only[results,Tryz.results10];go_simp) rfl ⟨fin.out,hBf.out⟩
 | ok r=>
  obtain⟨k,s'⟩:=r
  cases hi:s'.im.image W S with
  | error x=>
   have hxn:x≠0:=by rcases image_err hi with h | h<;>rw[h]<;>decide
   have hL:=zh (ldLoad_no hrh.out hl hi)
   refine(loaded_no_load G sp W3 hG3.out name hn w.heap.size gx k s' hl x (load_what_no hA3.out hX3h.out hl hrh.out hi)).mono ?_
   rintro e w' ⟨rfl,hb⟩
   obtain⟨y0,y1,y2,z0,z1,z2⟩:=t0.out w' hb
   have b4:=hT3h.out.below hb hT3h.out.lt
   have b4f:=((b4.set_ 0 (.slice none 0 0)).set_ 1 (.int .i64 0)).set_ 2 (.slice none 0 0)
   have r0:(((w'.setCell ⟨gt,0,none⟩ (.slice none 0 0)).setCell ⟨gt,1,none⟩ (.int .i64 0)).setCell ⟨gt,2,none⟩ (.slice none 0 0)).cell? ⟨gt,0,none⟩=some (.slice none 0 0):=by have:=b4f.cell 0;simpa using this
   have r1:(((w'.setCell ⟨gt,0,none⟩ (.slice none 0 0)).setCell ⟨gt,1,none⟩ (.int .i64 0)).setCell ⟨gt,2,none⟩ (.slice none 0 0)).cell? ⟨gt,1,none⟩=some (.int .i64 0):=by have:=b4f.cell 1;simpa using this
   have r2:(((w'.setCell ⟨gt,0,none⟩ (.slice none 0 0)).setCell ⟨gt,1,none⟩ (.int .i64 0)).setCell ⟨gt,2,none⟩ (.slice none 0 0)).cell? ⟨gt,2,none⟩=some (.slice none 0 0):=by have:=b4f.cell 2;simpa using this
   have hBf:=zh ((((hB3h.out.trans (hb.mono (by rw[hz3h.out];omega))).setCell (p:=⟨gt,0,none⟩) (by show w.heap.size≤gt;omega) (.slice none 0 0)).setCell (p:=⟨gt,1,none⟩) (by show w.heap.size≤gt;omega) (.int .i64 0)).setCell (p:=⟨gt,2,none⟩) (by show w.heap.size≤gt;omega) (.slice none 0 0))
   have fin:Hid (LoadAns (ldLoad G name W S) (.returned (.tuple #[.agg #[.slice none 0 0,.int .i64 0,.slice none 0 0],.int .i64 x])) (((w'.setCell ⟨gt,0,none⟩ (.slice none 0 0)).setCell ⟨gt,1,none⟩ (.int .i64 0)).setCell ⟨gt,2,none⟩ (.slice none 0 0))):=zh (LoadAns.no hL.out)
   have hxb:(x==0)=false:=by rw[beq_eq_false_iff_ne];exact hxn
   have hxb2:(x != 0)=true:=by rw[bne_iff_ne];exact hxn
   clear b4 b4f hb
   go_wp2_with fail
   exact bodyPost_ret (v:=.tuple #[.agg #[.slice none 0 0,.int .i64 0,.slice none 0 0],.int .i64 x]) (by simp only[results,Tryz.results10];go_simp) rfl ⟨fin.out,hBf.out⟩
  | ok ws=>
   have hL:=zh (ldLoad_ok hrh.out hl hi)
   refine(loaded_ok_load G sp W3 hG3.out name hn w.heap.size gx k s' hl (LdR W3 gx s'.im ws) (ldR_err hX3h.out.lt) (load_what_ok hA3.out hX3h.out hl hrh.out hi)).mono ?_
   rintro e w' ⟨rfl,gw,gm,cm,h5,h6,h7,h8,h9,h10,h11⟩
   have hzz:=hz3h.out
   have hgt3:=hT3h.out.lt
   have bx0:w'.cell? ⟨gx,0,none⟩=some (.slice (some ⟨gw,0,none⟩) ws.length ws.length):=by have:=h5.cell 0;simpa [imCells] using this
   have bx1:w'.cell? ⟨gx,1,none⟩=some (.int .i64 8):=by have:=h5.cell 1;simpa [imCells] using this
   have bx2:w'.cell? ⟨gx,2,none⟩=some (.slice (some ⟨gm,0,none⟩) s'.im.n cm):=by have:=h5.cell 2;simpa [imCells] using this
   have b4:=hT3h.out.kept h10 ⟨hT3h.out.lt,by omega⟩
   have y0:w'.cell? ⟨gt,0,none⟩=some (.slice none 0 0):=by have:=b4.cell 0;simpa using this
   have y1:w'.cell? ⟨gt,1,none⟩=some (.int .i64 0):=by have:=b4.cell 1;simpa using this
   have y2:w'.cell? ⟨gt,2,none⟩=some (.slice none 0 0):=by have:=b4.cell 2;simpa using this
   have z0:=b4.frozen 0
   have z1:=b4.frozen 1
   have z2:=b4.frozen 2
   have b4f:=((b4.set_ 0 (.slice (some ⟨gw,0,none⟩) ws.length ws.length)).set_ 1 (.int .i64 8)).set_ 2 (.slice (some ⟨gm,0,none⟩) s'.im.n cm)
   have r0:(((w'.setCell ⟨gt,0,none⟩ (.slice (some ⟨gw,0,none⟩) ws.length ws.length)).setCell ⟨gt,1,none⟩ (.int .i64 8)).setCell ⟨gt,2,none⟩ (.slice (some ⟨gm,0,none⟩) s'.im.n cm)).cell? ⟨gt,0,none⟩=some (.slice (some ⟨gw,0,none⟩) ws.length ws.length):=by have:=b4f.cell 0;simpa using this
   have r1:(((w'.setCell ⟨gt,0,none⟩ (.slice (some ⟨gw,0,none⟩) ws.length ws.length)).setCell ⟨gt,1,none⟩ (.int .i64 8)).setCell ⟨gt,2,none⟩ (.slice (some ⟨gm,0,none⟩) s'.im.n cm)).cell? ⟨gt,1,none⟩=some (.int .i64 8):=by have:=b4f.cell 1;simpa using this
   have r2:(((w'.setCell ⟨gt,0,none⟩ (.slice (some ⟨gw,0,none⟩) ws.length ws.length)).setCell ⟨gt,1,none⟩ (.int .i64 8)).setCell ⟨gt,2,none⟩ (.slice (some ⟨gm,0,none⟩) s'.im.n cm)).cell? ⟨gt,2,none⟩=some (.slice (some ⟨gm,0,none⟩) s'.im.n cm):=by have:=b4f.cell 2;simpa using this
   have hKf:Kept (fun p=>p≠gt) w' (((w'.setCell ⟨gt,0,none⟩ (.slice (some ⟨gw,0,none⟩) ws.length ws.length)).setCell ⟨gt,1,none⟩ (.int .i64 8)).setCell ⟨gt,2,none⟩ (.slice (some ⟨gm,0,none⟩) s'.im.n cm)):=(((Kept.refl (fun p=>p≠gt) w').setCell (p:=⟨gt,0,none⟩) (fun hS=>hS rfl) _).setCell (p:=⟨gt,1,none⟩) (fun hS=>hS rfl) _).setCell (p:=⟨gt,2,none⟩) (fun hS=>hS rfl) _
   have hBf:Hid (Below w.heap.size w (((w'.setCell ⟨gt,0,none⟩ (.slice (some ⟨gw,0,none⟩) ws.length ws.length)).setCell ⟨gt,1,none⟩ (.int .i64 8)).setCell ⟨gt,2,none⟩ (.slice (some ⟨gm,0,none⟩) s'.im.n cm))):=zh (hB3h.out.trans (Below.trans (h10.to_below fun p hp=>⟨by omega,by omega⟩) (hKf.to_below fun p hp=>by omega)))
   have fin:Hid (LoadAns (ldLoad G name W S) (.returned (.tuple #[.agg (imCells gw gm cm s'.im.n ws.length),.int .i64 0])) (((w'.setCell ⟨gt,0,none⟩ (.slice (some ⟨gw,0,none⟩) ws.length ws.length)).setCell ⟨gt,1,none⟩ (.int .i64 8)).setCell ⟨gt,2,none⟩ (.slice (some ⟨gm,0,none⟩) s'.im.n cm))):=zh (by
    rw[hL.out]
    exact⟨gw,gm,cm,rfl,h6.kept hKf (by omega),⟨Nat.lt_of_lt_of_le h7.lt hKf.size,fun j u hu=>(hKf.cell (p:=⟨gm,0+j,none⟩) (by show gm≠gt;omega)).trans (h7.cells j u hu)⟩,h11⟩)
   have hne:gt≠gx:=by omega
   clear b4 b4f hKf h5 h6 h7 h10 hzz
   go_wp2_with fail
   exact bodyPost_ret (v:=.tuple #[.agg #[(.slice (some ⟨gw,0,none⟩) ws.length ws.length),.int .i64 8,(.slice (some ⟨gm,0,none⟩) s'.im.n cm)],.int .i64 0]) (by simp only[results,Tryz.results10];go_simp) rfl ⟨fin.out,hBf.out⟩
theorem load_ok (G:Files) (sp:Nat) (w:World) (hG:GetOk G w.heap.size sp w) (name:List UInt8) (hn:name.length≤100000) (W S:Int) :
  Calls Tryz.prog 10 #[.pointer (some ⟨sp,0,none⟩),.string (txt name),.agg #[.int .i64 W,.int .i64 S]] w fun e w'=>LoadAns (ldLoad G name W S) e w'∧Below w.heap.size w w':=by
 cases hr:badRoom W S with
 | true=>exact load_bad G sp w name W S hr
 | false=>exact load_good G sp w hG name hn W S hr
end Go.Proofs.YtceflhffilldeaaGreat
namespace Go.Proofs.YtceflhffilldeaaGreat
open ObjL
namespace Ldr
end Ldr
end Go.Proofs.YtceflhffilldeaaGreat
