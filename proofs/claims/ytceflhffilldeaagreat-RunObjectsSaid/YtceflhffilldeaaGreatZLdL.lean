/-
  Joined: ZLdL.
-/
import Derived.WalkLawsBesides
import Derived.Defers
import Derived.Recover
import Derived.Laws.Pointers
import Derived.Test.YtceflhffilldeaaGreatZTkB
set_option linter.unusedVariables false
set_option linter.unusedSimpArgs false
set_option maxRecDepth 100000
set_option maxHeartbeats 16000000
namespace Go.Proofs.YtceflhffilldeaaGreat
open ObjL
namespace Ldr
abbrev Files:=List UInt8→Option (List UInt8)
def dotObj:List UInt8:=[46,79,98,106]
structure LS where
 pos:List UInt8→Int
 begun:Int
 objs:List Ob
def LS.key (s:LS) (n:Int):Int:=((s.objs[(n-1).toNat]?).map Ob.key).getD 0
def LS.mark (s:LS) (name:List UInt8):LS:={ pos:=fun t=>if t=name then -1 else s.pos t,begun:=s.begun+1,objs:=s.objs }
def LS.done (s:LS) (name:List UInt8) (o:Ob):LS:={ pos:=fun t=>if t=name then ((s.objs++[o]).length:Int) else s.pos t,begun:=s.begun,objs:=s.objs++[o] }
def usesL (ld:List UInt8→LS→Except Int (Int×LS)):List (List UInt8×Int)→LS→Except Int LS
 | [],s=>.ok s
 | u::us,s=>match ld u.1 s with
  | .error e=>.error e
  | .ok (k,s')=>if k=u.2 then usesL ld us s' else .error 184
def load (G:Files):Nat→List UInt8→LS→Except Int (Int×LS)
 | 0,_,_=>.error 3
 | f+1,name,s=>
  if 0<s.pos name then .ok (s.key (s.pos name),s)
  else if s.pos name=0 then
   if s.begun+1≤16 then
    match G (name++dotObj) with
    | none=>.error 251
    | some t=>match decO t with
     | none=>.error 230
     | some o=>if o.name=name then
       match usesL (load G f) o.uses (s.mark name) with
       | .error e=>.error e
       | .ok s'=>.ok (o.key,s'.done name o)
      else .error 230
   else .error 3
  else .error 252
structure LS.Ok (s:LS):Prop where
 low:0≤s.begun
 high:s.begun≤16
 few:(s.objs.length:Int)≤s.begun
 at_:∀ t,s.pos t≤s.objs.length
 good:∀ o∈s.objs,goodO o=true∧(encO o).length≤131072
def LS.none_:LS:=⟨fun _=>0,0,[]⟩
theorem none_ok:LS.none_.Ok:=⟨by decide,by decide,by decide,fun t=>by simp[LS.none_],fun o ho=>by cases ho⟩
theorem LS.Ok.mark {s:LS} (h:s.Ok) (name:List UInt8) (hb:s.begun+1≤16):(s.mark name).Ok:=
 ⟨by have:=h.low;show 0≤s.begun+1;omega,hb,by have:=h.few;show (s.objs.length:Int)≤s.begun+1;omega,fun t=>by
  show (if t=name then (-1:Int) else s.pos t)≤s.objs.length
  split
  ·omega
  ·exact h.at_ t,h.good⟩
theorem usesL_append (ld:List UInt8→LS→Except Int (Int×LS)):∀ (a b:List (List UInt8×Int)) (s:LS),usesL ld (a++b) s=match usesL ld a s with | .error e=>.error e | .ok s'=>usesL ld b s'
 | [],b,s=>rfl
 | u::a,b,s=>by
  rw[List.cons_append,usesL,usesL]
  cases h:ld u.1 s with
  | error e=>rfl
  | ok r=>
   obtain⟨k,s'⟩:=r
   dsimp only
   split
   ·exact usesL_append ld a b s'
   ·rfl
theorem usesL_snoc {ld:List UInt8→LS→Except Int (Int×LS)} {a:List (List UInt8×Int)} {u:List UInt8×Int} {s s1 s2:LS} {k:Int} (h:usesL ld a s=.ok s1) (h2:ld u.1 s1=.ok (k,s2)) (h3:k=u.2):usesL ld (a++[u]) s=.ok s2:=by
 rw[usesL_append,h]
 dsimp only
 rw[usesL,h2]
 dsimp only
 rw[if_pos h3]
 rfl
theorem usesL_fail {ld:List UInt8→LS→Except Int (Int×LS)} {l:List (List UInt8×Int)} {k:Nat} {s s1:LS} {e:Int} (hk:k<l.length) (h:usesL ld (l.take k) s=.ok s1) (h2:ld l[k].1 s1=.error e):usesL ld l s=.error e:=by
 have:l=l.take k++(l[k]::l.drop (k+1)):=by rw[← List.drop_eq_getElem_cons hk,List.take_append_drop]
 rw[this,usesL_append,h]
 dsimp only
 rw[usesL,h2]
theorem usesL_other {ld:List UInt8→LS→Except Int (Int×LS)} {l:List (List UInt8×Int)} {k:Nat} {s s1 s2:LS} {x:Int} (hk:k<l.length) (h:usesL ld (l.take k) s=.ok s1) (h2:ld l[k].1 s1=.ok (x,s2)) (h3:x≠l[k].2):usesL ld l s=.error 184:=by
 have:l=l.take k++(l[k]::l.drop (k+1)):=by rw[← List.drop_eq_getElem_cons hk,List.take_append_drop]
 rw[this,usesL_append,h]
 dsimp only
 rw[usesL,h2]
 dsimp only
 rw[if_neg h3]
theorem usesL_begun {ld:List UInt8→LS→Except Int (Int×LS)} (h:∀ nm s k s',ld nm s=.ok (k,s')→s.begun≤s'.begun):∀ (l:List (List UInt8×Int)) (s s':LS),usesL ld l s=.ok s'→s.begun≤s'.begun
 | [],s,s',e=>by rw[usesL] at e;injection e with e;rw[e];exact Int.le_refl _
 | u::l,s,s',e=>by
  rw[usesL] at e
  cases h1:ld u.1 s with
  | error x=>rw[h1] at e;cases e
  | ok r=>
   obtain⟨k,s1⟩:=r
   rw[h1] at e
   dsimp only at e
   split at e
   ·exact Int.le_trans (h _ _ _ _ h1) (usesL_begun h l s1 s' e)
   ·cases e
theorem load_begun (G:Files):∀ (f:Nat) (nm:List UInt8) (s:LS) (k:Int) (s':LS),load G f nm s=.ok (k,s')→s.begun≤s'.begun
 | 0,nm,s,k,s',e=>by rw[load] at e;cases e
 | f+1,nm,s,k,s',e=>by
  rw[load] at e
  split at e
  ·injection e with e;injection e with _ e;rw[e];exact Int.le_refl _
  ·split at e
   ·split at e
    ·split at e
     ·cases e
     ·split at e
      ·cases e
      ·split at e
       ·split at e
        ·cases e
        ·rename_i s2 hu
         injection e with e
         injection e with _ e
         have:=usesL_begun (load_begun G f) _ _ _ hu
         rw[← e]
         show s.begun≤s2.begun
         have h2:(s.mark nm).begun=s.begun+1:=rfl
         omega
       ·cases e
    ·cases e
   ·cases e
theorem load_done {G:Files} {f:Nat} {name:List UInt8} {s:LS} (h:0<s.pos name):load G (f+1) name s=.ok (s.key (s.pos name),s):=by rw[load,if_pos h]
theorem load_loop {G:Files} {f:Nat} {name:List UInt8} {s:LS} (h:s.pos name<0):load G (f+1) name s=.error 252:=by rw[load,if_neg (by omega),if_neg (by omega)]
theorem load_many {G:Files} {f:Nat} {name:List UInt8} {s:LS} (h:s.pos name=0) (h2:¬ s.begun+1≤16):load G (f+1) name s=.error 3:=by rw[load,if_neg (by omega),if_pos h,if_neg h2]
theorem load_miss {G:Files} {f:Nat} {name:List UInt8} {s:LS} (h:s.pos name=0) (h2:s.begun+1≤16) (h3:G (name++dotObj)=none):load G (f+1) name s=.error 251:=by rw[load,if_neg (by omega),if_pos h,if_pos h2,h3]
theorem load_bad {G:Files} {f:Nat} {name t:List UInt8} {s:LS} (h:s.pos name=0) (h2:s.begun+1≤16) (h3:G (name++dotObj)=some t) (h4:decO t=none):load G (f+1) name s=.error 230:=by
 rw[load,if_neg (by omega),if_pos h,if_pos h2,h3]
 dsimp only
 rw[h4]
theorem load_named {G:Files} {f:Nat} {name t:List UInt8} {s:LS} {o:Ob} (h:s.pos name=0) (h2:s.begun+1≤16) (h3:G (name++dotObj)=some t) (h4:decO t=some o) (h5:o.name≠name):load G (f+1) name s=.error 230:=by
 rw[load,if_neg (by omega),if_pos h,if_pos h2,h3]
 dsimp only
 rw[h4]
 dsimp only
 rw[if_neg h5]
def loadBy (name:List UInt8) (o:Ob) (r:Except Int LS):Except Int (Int×LS):=match r with | .error e=>.error e | .ok s'=>.ok (o.key,s'.done name o)
theorem load_uses {G:Files} {f:Nat} {name t:List UInt8} {s:LS} {o:Ob} (h:s.pos name=0) (h2:s.begun+1≤16) (h3:G (name++dotObj)=some t) (h4:decO t=some o) (h5:o.name=name) :
  load G (f+1) name s=loadBy name o (usesL (load G f) o.uses (s.mark name)):=by
 rw[load,if_neg (by omega),if_pos h,if_pos h2,h3]
 dsimp only
 rw[h4]
 dsimp only
 rw[if_pos h5]
 rfl
end Ldr
end Go.Proofs.YtceflhffilldeaaGreat
namespace Go.Proofs.YtceflhffilldeaaGreat
open Go.RowKit
def faultV (c:Int):Value:=.iface 117 (.agg #[.int .i64 c])
def faultE (c:Int):Ending:=.panicked [{ v:=faultV c,recovered:=false }]
theorem want_ok (c:Int) (w:World):Calls Tryz.prog 48 #[.bool true,.int .i64 c] w fun e w'=>e=.returned (.tuple #[])∧w=w':=by
 go_enter Tryz.func48,Tryz.ntmps48
 go_wp2_with fail
 go_end0
 exact⟨rfl,rfl⟩
theorem want_no (c:Int) (w:World):Calls Tryz.prog 48 #[.bool false,.int .i64 c] w fun e w'=>e=faultE c∧w=w':=by
 go_enter Tryz.func48,Tryz.ntmps48
 go_wp2_with fail
 exact⟨rfl,rfl,rfl⟩
theorem catch_fault (g:Nat) (x c:Int) (w:World) (hc:w.cell? ⟨g,0,none⟩=some (.int .i64 x)) (hz:w.frozen? ⟨g,0,none⟩=false) :
  CallsD Tryz.prog 45 #[.pointer (some ⟨g,0,none⟩)] (.panicking [{ v:=faultV c,recovered:=false }]) w fun e u' w'=>
   e=.returned (.tuple #[])∧u'=.panicking [{ v:=faultV c,recovered:=true }]∧w'=(w.alloc (.cells #[.int .i64 c] 117)).setCell ⟨g,0,none⟩ (.int .i64 c):=by
 refine callsD_of_wpS Tryz.func45 rfl fun c₀ cs hu=>?_
 apply wpS_seq
 apply wpS_region
 simp[wpOpsS,go_sem,recoverD,hu,Tryz.ntmps45,Exit.thenS]
 have hlit:(#[Value.pointer (some ⟨g,0,none⟩)]++(Array.replicate 11 undef).setIfInBounds 3 (faultV c))=#[.pointer (some ⟨g,0,none⟩),undef,undef,undef,faultV c,undef,undef,undef,undef,undef,undef,undef]:=by rfl
 try rw[hlit]
 refine wpS_of_wp ?_
 have hta:∀ W:World,(Instr.typeAssert (.iface 117 (.agg #[.int .i64 c])) 20 117 true).run Tryz.prog W=.ok (.tuple #[.agg #[.int .i64 c],.bool true]) W:=fun W=>by kernel_rfl
 unfold faultV at *
 have hlt:=block_lt_of_cell hc
 have hc2:(w.alloc (.cells #[.int .i64 c] 117)).cell? ⟨g,0,none⟩=some (.int .i64 x):=(World.cell?_alloc_lt w _ _ hlt).trans hc
 have hz2:(w.alloc (.cells #[.int .i64 c] 117)).frozen? ⟨g,0,none⟩=false:=(World.frozen?_of_block (w:=w) (Below.heap_alloc w _ g hlt)).trans hz
 go_wp2_with fail
 cases c₀
 simp_all[bodyPostS,results,Tryz.results45]
theorem catch_none (g:Nat) (w:World) :
  CallsD Tryz.prog 45 #[.pointer (some ⟨g,0,none⟩)] .returning w fun e u' w'=>e=.returned (.tuple #[])∧u'=.returning∧w'=w:=by
 refine callsD_of_wpS Tryz.func45 rfl fun c₀ cs hu=>?_
 apply wpS_seq
 apply wpS_region
 simp[wpOpsS,go_sem,recoverD,hu,Tryz.ntmps45,Exit.thenS]
 refine wpS_of_wp ?_
 go_wp2_with fail
 cases c₀
 simp_all[bodyPostS,results,Tryz.results45]
end Go.Proofs.YtceflhffilldeaaGreat
namespace Go.Proofs.YtceflhffilldeaaGreat
open Go.RowKit ObjL Ldr Go.Maps Go.WideMaps
abbrev ldT:TypeId:=98
abbrev obT:TypeId:=48
structure OM where
 o:Ob
 U:Value
 D:Value
 C:Value
 E:Value
 dv:List DV
def OM.cells (x:OM):List Value:=(obCells x.o x.U x.D x.C x.E).toList
theorem OM.cells_len (x:OM):x.cells.length=10:=rfl
structure OmAt (w:World) (x:OM):Prop where
 parts:ObParts w x.o x.U x.D x.C x.E
 fine:ObFine x.o
 rows:∃ B,TkRows B w x.o.uses x.dv x.o.code x.o.entries x.U x.D x.C x.E
 descs:x.o.descs=x.dv.map (·.1)
theorem OmAt.keepB {bad:TypeId→Bool} {w w':World} {x:OM} (h:OmAt w x) (hk:KeepB bad w w') (hb:noRow bad):OmAt w' x:=by
 obtain⟨B,hr⟩:=h.rows
 have hr2:=hr.keepB hk hb
 exact⟨hr2.parts rfl h.descs rfl rfl,h.fine,⟨B,hr2⟩,h.descs⟩
theorem OmAt.below {w w':World} {x:OM} (h:OmAt w x) (hb:Below w.heap.size w w'):OmAt w' x:=h.keepB (KeepB.of_below (bad:=fun _=>false) hb) ⟨rfl,rfl,rfl,rfl,rfl⟩
theorem SMap.kept {S:Nat→Prop} {w w':World} {b n:Nat} {D:DataW Unit} (h:SMap w b n D) (hk:Kept S w w') (hb:S b):SMap w' b n D:=by
 obtain⟨es,clock,hB,F,hs,hD⟩:=h
 exact⟨es,clock,(hk.block b hb).trans hB,F,hs,hD⟩
theorem SMap.blk {w:World} {b n:Nat} {D:DataW Unit} (h:SMap w b n D) {g:Nat} {t:TypeId} {cs:Array Value} {fr:Nat×Nat} (hg:w.heap[g]?=some (.cells cs t fr)):g≠b:=by
 intro e
 subst e
 obtain⟨es,clock,hB,-⟩:=h
 rw[hB] at hg
 cases hg
theorem row_ne {w:World} {base size n g:Nat} {e t:TypeId} {v:Value} {xs:List Value} {cs:Array Value} {fr:Nat×Nat} (h:w.ownsRow base e size v n xs) (hg:w.heap[g]?=some (.cells cs t fr)) (hne:t≠e):some g≠v.ownBlock:=by
 intro e1
 rcases h.2 with ⟨rfl,_⟩ | ⟨g',cap,cur,rfl,hg',hh,_⟩
 ·cases e1
 ·have e1:=Option.some.inj e1
  dsimp only at e1
  subst e1
  rw[hh] at hg
  injection hg with hg
  injection hg with _ hg _
  exact hne hg.symm
theorem row_kept {S:Nat→Prop} {w w':World} {base size n:Nat} {e:TypeId} {v:Value} {xs:List Value} (h:w.ownsRow base e size v n xs) (hk:Kept S w w') (hS:∀ k,v.ownBlock=some k→S k):w'.ownsRow base e size v n xs:=by
 obtain⟨h1,h2⟩:=h
 refine⟨h1,?_⟩
 rcases h2 with h2 | ⟨g,cap,cur,rfl,hg,hh,r⟩
 ·exact Or.inl h2
 ·exact Or.inr ⟨g,cap,cur,rfl,hg,(hk.block g (hS g rfl)).trans hh,r⟩
structure LdAt (c d B lp mb sp:Nat) (w:World) (n:Nat) (D:DataW Unit) (vO:Value) (xs:List OM) (s:LS):Prop where
 blk:Blk w lp ldT #[.pointer (some ⟨sp,0,none⟩),.map (some mb),.int .i64 s.begun,vO]
 map:SMap w mb n D
 pos:∀ t,sval D t=s.pos t
 row:w.ownsRow B obT 10 vO xs.length (xs.flatMap OM.cells)
 objs:s.objs=xs.map (·.o)
 oms:∀ x∈xs,OmAt w x
 few:(n:Int)+c≤2*s.begun
 fewo:(s.objs.length:Int)+d≤s.begun
 ok:s.Ok
 lpB:B≤lp
 mbB:B≤mb
def ldS (w:World) (lp mb:Nat) (r:Option Nat) (k:Nat):Prop:=k<w.heap.size∧k≠lp∧k≠mb∧some k≠r
structure LdK (lp mb:Nat) (r r':Option Nat) (w w':World):Prop where
 kept:Kept (ldS w lp mb r) w w'
 row:∀ k,r'=some k→r=some k∨w.heap.size≤k
theorem LdK.refl (lp mb:Nat) (r:Option Nat) (w:World):LdK lp mb r r w w:=⟨Kept.refl _ _,fun k h=>Or.inl h⟩
theorem LdK.trans {lp mb:Nat} {r r' r'':Option Nat} {a b c:World} (h:LdK lp mb r r' a b) (k:LdK lp mb r' r'' b c):LdK lp mb r r'' a c:=by
 refine⟨Kept.trans h.kept (Kept.mono k.kept fun i hi=>⟨Nat.lt_of_lt_of_le hi.1 h.kept.size,hi.2.1,hi.2.2.1,fun e=>?_⟩),fun i hi=>?_⟩
 ·rcases h.row i e.symm with h1 | h1
  ·exact hi.2.2.2 h1.symm
  ·exact absurd hi.1 (by omega)
 ·rcases k.row i hi with h1 | h1
  ·exact h.row i h1
  ·exact Or.inr (Nat.le_trans h.kept.size h1)
theorem LdK.of_below {lp mb:Nat} {r:Option Nat} {w w':World} (h:Below w.heap.size w w'):LdK lp mb r r w w':=⟨(Kept.refl (ldS w lp mb r) w).below h fun k hk=>hk.1,fun k h=>Or.inl h⟩
section
variable {c d B lp mb sp n:Nat} {w w':World} {D:DataW Unit} {vO:Value} {xs:List OM} {s:LS}
theorem LdAt.lpmb (h:LdAt c d B lp mb sp w n D vO xs s):lp≠mb:=h.map.blk h.blk
theorem LdAt.lprow (h:LdAt c d B lp mb sp w n D vO xs s):some lp≠vO.ownBlock:=row_ne h.row h.blk (by decide)
theorem LdAt.mbrow (h:LdAt c d B lp mb sp w n D vO xs s):some mb≠vO.ownBlock:=by
 intro e
 rcases h.row.2 with ⟨e2,_⟩ | ⟨g,cap,cur,e2,hg,hh,_⟩
 ·rw[e2] at e;cases e
 ·rw[e2] at e
  have e:=Option.some.inj e
  dsimp only at e
  exact h.map.blk hh e.symm
theorem LdAt.mblt (h:LdAt c d B lp mb sp w n D vO xs s):mb<w.heap.size:=World.ownsMap.lt h.map
theorem LdAt.below (h:LdAt c d B lp mb sp w n D vO xs s) (hb:Below w.heap.size w w'):LdAt c d B lp mb sp w' n D vO xs s:=
 ⟨h.blk.below hb h.blk.lt,h.map.below hb,h.pos,row_keepB h.row (KeepB.of_below (bad:=fun _=>false) hb) rfl,h.objs,fun x hx=>(h.oms x hx).below hb,h.few,h.fewo,h.ok,h.lpB,h.mbB⟩
theorem LdK.keepB {r':Option Nat} (h:LdAt c d B lp mb sp w n D vO xs s) (hk:LdK lp mb vO.ownBlock r' w w'):KeepB (fun t=>t==ldT || t==obT) w w':=
 ⟨hk.kept.os,hk.kept.tape,hk.kept.output,hk.kept.size,fun g cs t fr hg hb=>by
  have ht:t≠ldT∧t≠obT:=by simpa using hb
  refine(hk.kept.block g ⟨(Array.getElem?_eq_some_iff.1 hg).1,fun e=>?_,h.map.blk hg,row_ne h.row hg ht.2⟩).trans hg
  subst e
  have hb:=h.blk
  unfold Blk at hb
  rw[hb] at hg
  injection hg with hg
  injection hg with _ hg _
  exact ht.1 hg.symm⟩
theorem ld_noRow:noRow (fun t=>t==ldT || t==obT):=⟨by decide,by decide,by decide,by decide,by decide⟩
theorem LdAt.begin_ (h:LdAt c d B lp mb sp w n D vO xs s) (hb:s.begun+1≤16) :
  LdAt (c+2) (d+1) B lp mb sp (w.setCell ⟨lp,2,none⟩ (.int .i64 (s.begun+1))) n D vO xs { s with begun:=s.begun+1 }∧LdK lp mb vO.ownBlock vO.ownBlock w (w.setCell ⟨lp,2,none⟩ (.int .i64 (s.begun+1))):=by
 have hk:LdK lp mb vO.ownBlock vO.ownBlock w (w.setCell ⟨lp,2,none⟩ (.int .i64 (s.begun+1))):=⟨(Kept.refl _ w).setCell (p:=⟨lp,2,none⟩) (fun hS=>hS.2.1 rfl) _,fun k h=>Or.inl h⟩
 have hK1:Kept (fun k=>k≠lp) w (w.setCell ⟨lp,2,none⟩ (.int .i64 (s.begun+1))):=(Kept.refl _ w).setCell (p:=⟨lp,2,none⟩) (fun hS=>hS rfl) _
 refine⟨⟨h.blk.set_ 2 _,h.map.kept hK1 (Ne.symm h.lpmb),h.pos,row_kept h.row hK1 (fun k hk e=>h.lprow (by rw[hk,e])),h.objs,fun x hx=>(h.oms x hx).keepB (hk.keepB h) ld_noRow,by show (n:Int)+(c+2:Nat)≤2*(s.begun+1);have:=h.few;omega,by show (s.objs.length:Int)+(d+1:Nat)≤s.begun+1;have:=h.fewo;omega,?_,h.lpB,h.mbB⟩,hk⟩
 exact⟨by have:=h.ok.low;show 0≤s.begun+1;omega,hb,by have:=h.ok.few;show (s.objs.length:Int)≤s.begun+1;omega,h.ok.at_,h.ok.good⟩
theorem LdAt.put_ {nm:List UInt8} {x:Int} (h:LdAt (c+1) d B lp mb sp w n D vO xs s) (hm:SMap w' mb (n+1) (D.put (skey nm) (snum x))) (hg:w.grownBy w' (some mb)) (hx:x≤s.objs.length) :
  LdAt c d B lp mb sp w' (n+1) (D.put (skey nm) (snum x)) vO xs { s with pos:=fun t=>if t=nm then x else s.pos t }∧LdK lp mb vO.ownBlock vO.ownBlock w w':=by
 have hK1:Kept (fun k=>k<w.heap.size∧k≠mb) w w':=(Kept.refl _ w).grown hg (fun k hk=>hk.1) (fun k hk hS=>hS.2 (Option.some.inj hk).symm)
 have hk:LdK lp mb vO.ownBlock vO.ownBlock w w':=⟨hK1.mono fun k hk=>⟨hk.1,hk.2.2.1⟩,fun k h=>Or.inl h⟩
 refine⟨⟨h.blk.kept hK1 ⟨h.blk.lt,h.lpmb⟩,hm,fun t=>?_,row_kept h.row hK1 (fun k hk=>⟨(h.row.lt k hk).2,fun e=>h.mbrow (by rw[hk,e])⟩),h.objs,fun x hx=>(h.oms x hx).keepB (hk.keepB h) ld_noRow,by have:=h.few;push_cast at this ⊢;omega,h.fewo,?_,h.lpB,h.mbB⟩,hk⟩
 ·rw[sval_put h.map.isMap,h.pos]
 ·exact⟨h.ok.low,h.ok.high,h.ok.few,fun t=>by
   show (if t=nm then x else s.pos t)≤s.objs.length
   split
   ·exact hx
   ·exact h.ok.at_ t,h.ok.good⟩
theorem LdAt.push_ {v':Value} {x:OM} (h:LdAt c (d+1) B lp mb sp w n D vO xs s) (hx:OmAt w x) (hgd:goodO x.o=true∧(encO x.o).length≤131072) (ho:w'.ownsRow B obT 10 v' (xs.length+1) (xs.flatMap OM.cells++x.cells)) (hg:w.grownBy w' vO.ownBlock)
  (hat:v'.ownBlock=vO.ownBlock∨v'.ownBlock=some w.heap.size) :
  w'.cell? ⟨lp,3,none⟩=some vO∧w'.frozen? ⟨lp,3,none⟩=false ∧
  LdAt c d B lp mb sp (w'.setCell ⟨lp,3,none⟩ v') n D v' (xs++[x]) { s with objs:=s.objs++[x.o] }∧LdK lp mb vO.ownBlock v'.ownBlock w (w'.setCell ⟨lp,3,none⟩ v'):=by
 have hK1:Kept (fun k=>k<w.heap.size∧some k≠vO.ownBlock) w w':=(Kept.refl _ w).grown hg (fun k hk=>hk.1) (fun k hk hS=>hS.2 hk.symm)
 have hblk:Blk w' lp ldT #[.pointer (some ⟨sp,0,none⟩),.map (some mb),.int .i64 s.begun,vO]:=h.blk.kept hK1 ⟨h.blk.lt,h.lprow⟩
 have hk:LdK lp mb vO.ownBlock v'.ownBlock w (w'.setCell ⟨lp,3,none⟩ v'):=by
  refine⟨(hK1.mono fun k hk=>⟨hk.1,hk.2.2.2⟩).setCell (p:=⟨lp,3,none⟩) (fun hS=>hS.2.1 rfl) _,fun k hk=>?_⟩
  rcases hat with e | e
  ·exact Or.inl (by rw[← e];exact hk)
  ·rw[e] at hk
   exact Or.inr (Nat.le_of_eq (Option.some.inj hk))
 have hlpv:some lp≠v'.ownBlock:=row_ne ho hblk (by decide)
 have hK2:Kept (fun k=>k≠lp) w' (w'.setCell ⟨lp,3,none⟩ v'):=(Kept.refl _ w').setCell (p:=⟨lp,3,none⟩) (fun hS=>hS rfl) _
 have hK:=hk.keepB h
 refine⟨hblk.cell 3,hblk.frozen 3,⟨hblk.set_ 3 v',?_,h.pos,?_,?_,fun y hy=>?_,h.few,?_,?_,h.lpB,h.mbB⟩,hk⟩
 ·exact(h.map.kept hK1 ⟨h.mblt,h.mbrow⟩).kept hK2 (Ne.symm h.lpmb)
 ·rw[List.length_append,List.flatMap_append]
  simp only[List.flatMap_cons,List.flatMap_nil,List.append_nil,List.length_cons,List.length_nil]
  exact row_kept ho hK2 (fun k hk e=>hlpv (by rw[hk,e]))
 ·show s.objs++[x.o]=_
  rw[h.objs,List.map_append]
  rfl
 ·rcases List.mem_append.1 hy with hy | hy
  ·exact(h.oms y hy).keepB hK ld_noRow
  ·rw[List.mem_singleton.1 hy]
   exact hx.keepB hK ld_noRow
 ·have:=h.fewo
  show ((s.objs++[x.o]).length:Int)+d≤s.begun
  rw[List.length_append];push_cast at this ⊢;simp only[List.length_cons,List.length_nil];omega
 ·refine⟨h.ok.low,h.ok.high,?_,fun t=>?_,fun o ho=>?_⟩
  ·have:=h.fewo
   show ((s.objs++[x.o]).length:Int)≤s.begun
   rw[List.length_append];push_cast at this ⊢;simp only[List.length_cons,List.length_nil];omega
  ·have:=h.ok.at_ t
   show s.pos t≤((s.objs++[x.o]).length:Int)
   rw[List.length_append];push_cast;omega
  ·rcases List.mem_append.1 ho with ho | ho
   ·exact h.ok.good o ho
   ·rw[List.mem_singleton.1 ho];exact hgd
end
theorem wp_own_at {P:Program} {o:Oper} {a:Act} {K:Act→World→Prop} {Q:Exit→Act→World→Prop} (W:World) (s x:Operand) (t e:TypeId)
  (hop:o.op=.call { callee:=.builtin .append,args:=#[s,x],argTypes:=#[t,t] }) (size bytes:Nat) (z:Value) (ht:P.underlying t=some (.slice e))
  (info:(P.info? e).map (fun i=>(i.zero,i.size,i.bytes))=some (some z,size,bytes)) (hzs:z.cells.size=size) (hsz:0<size) (base:Nat) (hb0:base≤W.heap.size) (v:Value) (n:Nat) (xs:List Value)
  (own0:W.ownsRow base e size v n xs) (ad:Addr) (m c:Nat) (news:List Value) (hs:a.eval s=v) (hx:a.eval x=.slice (some ad) m c) (hl:news.length=m*size) (hnews:∀ j u,news[j]?=some u→W.cell? (ad.add j)=some u) (h1:∀ u∈news,u.oneCell'=true)
  (h63:n+m≤maxLen) (hbytes:(n+m)*bytes≤140737488355328)
  (hK:∀ v' w2,w2.ownsRow base e size v' (n+m) (xs++news)→W.grownBy w2 v.ownBlock→(v'.ownBlock=v.ownBlock∨v'.ownBlock=some W.heap.size)→K (a.put o.dst v') w2):o.wp P a W K Q:=by
 obtain⟨i0,hi0,hz0,hz1,hz2⟩:=info_parts info
 obtain⟨v2,w2,hrun,ho2,hg2,hn2,hat⟩:=run_append_own_at (P:=P) W base t o.type e i0 _ size bytes ht hi0 hz0 hz1 hz2 hzs hsz v n xs own0 ad m c news hl hnews h1 h63 hbytes hb0
 unfold Oper.wp execOp
 simp only[hop,resolve,invoke,builtin,Sem.run_bind,Sem.run_pure,Result.andThen_ok,List.map_toArray,List.map_cons,List.map_nil,hs,hx,hrun]
 exact hK v2 w2 ho2 hg2 hat
theorem step_own_at {P:Program} {ops:Array Oper} {o:Oper} {a:Act} {K:Act→World→Prop} {Q:Exit→Act→World→Prop} {E:Prop} (W:World) (hgd:o.guard=none) (s x:Operand) (t e:TypeId)
  (hop:o.op=.call { callee:=.builtin .append,args:=#[s,x],argTypes:=#[t,t] }) (size bytes:Nat) (z:Value) (ht:P.underlying t=some (.slice e))
  (info:(P.info? e).map (fun i=>(i.zero,i.size,i.bytes))=some (some z,size,bytes)) (hzs:z.cells.size=size) (hsz:0<size) (base:Nat) (hb0:base≤W.heap.size) (v:Value) (n:Nat) (xs:List Value)
  (own0:W.ownsRow base e size v n xs) (ad:Addr) (m c:Nat) (news:List Value) (hs:a.eval s=v) (hx:a.eval x=.slice (some ad) m c) (hl:news.length=m*size) (hnews:∀ j u,news[j]?=some u→W.cell? (ad.add j)=some u) (h1:∀ u∈news,u.oneCell'=true)
  (h63:n+m≤maxLen) (hbytes:(n+m)*bytes≤140737488355328)
  (hK:∀ v' w2,w2.ownsRow base e size v' (n+m) (xs++news)→W.grownBy w2 v.ownBlock→(v'.ownBlock=v.ownBlock∨v'.ownBlock=some W.heap.size)→K (a.put o.dst v') w2) :
  if Region.wanted o (yielded ops a.tmps)=true then Oper.wp P o a W K Q else E:=by
 have hw:Region.wanted o (yielded ops a.tmps)=true:=by simp[Region.wanted,hgd]
 rw[if_pos hw]
 exact wp_own_at W s x t e hop size bytes z ht info hzs hsz base hb0 v n xs own0 ad m c news hs hx hl hnews h1 h63 hbytes hK
theorem ld_wf64 {a:Int} (h1:-9223372036854775808≤a) (h2:a≤9223372036854775807):(Lit.int .i64 a).wf=true:=by
 simp[Lit.wf,IntKind.min,IntKind.max,IntKind.bits,IntKind.signed]
 omega
theorem ld_blk_range {w:World} {g:Nat} {t:TypeId} {cs:Array Value} (h:Blk w g t cs):w.rangeAt g 0 cs.toList:=fun j v hv=>by
 rw[Nat.zero_add,h.cell j,← hv,Array.getElem?_toList]
theorem ld_news {w:World} {t:TypeId} {cs:Array Value}:∀ (j:Nat) (u:Value),cs.toList[j]?=some u→(w.alloc (.cells cs t)).cell? ((⟨w.heap.size,0,none⟩:Addr).add j)=some u:=fun j u hu=>by
 rw[tk_add,Nat.zero_add,(Blk.new w t cs).cell j,← hu,Array.getElem?_toList]
theorem ld_ob_info:(Tryz.prog.info? obT).map (fun i=>(i.zero,i.size,i.bytes))=some (some (.agg #[.string ⟨#[]⟩,.int .u32 0,.slice none 0 0,.slice none 0 0,.int .i64 0,.string ⟨#[]⟩,.slice none 0 0,.slice none 0 0,.int .i64 0,.int .i64 0]),10,160):=by kernel_rfl
end Go.Proofs.YtceflhffilldeaaGreat
