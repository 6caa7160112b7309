/-
  Joined: ZKept.
-/
import Derived.Below
import Derived.Laws.OwnMore
import Derived.Deep.Draws
import Derived.Laws.Rows
import Derived.Laws.Tables
import Derived.StillTailTactics
import Derived.ChangeSlices
import Derived.OpenShut
import Derived.OwnWalk
import Derived.Deep.QuietTactic
import Derived.BigQuiet
set_option linter.unusedVariables false
set_option linter.unusedSimpArgs false
set_option maxRecDepth 100000
set_option maxHeartbeats 16000000
namespace Go.Proofs.YtceflhffilldeaaGreat
theorem zh {p : Prop} (h : p) : RowKit.Hid p := h
theorem sAp {α : Type _} (l : List α) (i : Nat) (a : α) : l.toArray.setIfInBounds i a = (l.set i a).toArray := List.setIfInBounds_toArray ..
theorem sA0 {α : Type _} (x : α) (l : List α) (a : α) : (x :: l).set 0 a = a :: l := List.set_cons_zero
theorem sAs {α : Type _} (x : α) (l : List α) (n : Nat) (a : α) : (x :: l).set (n + 1) a = x :: l.set n a := List.set_cons_succ
theorem gAr {α : Type _} (l : List α) (i : Nat) : l.toArray[i]? = l[i]? := List.getElem?_toArray
theorem gC0 {α : Type _} (x : α) (l : List α) : (x :: l)[0]? = some x := List.getElem?_cons_zero
theorem gCs {α : Type _} (x : α) (l : List α) (i : Nat) : (x :: l)[i + 1]? = l[i]? := List.getElem?_cons_succ
open Go.RowKit
structure Kept (S:Nat→Prop) (w w':World):Prop where
 os:w'.os=w.os
 tape:w'.tape=w.tape
 output:w'.output=w.output
 size:w.heap.size≤w'.heap.size
 block:∀ k,S k→w'.heap[k]?=w.heap[k]?
section
variable {S S':Nat→Prop} {a b c w w':World}
theorem Kept.refl (S:Nat→Prop) (w:World):Kept S w w:=⟨rfl,rfl,rfl,Nat.le_refl _,fun _ _=>rfl⟩
theorem Kept.trans (h:Kept S a b) (k:Kept S b c):Kept S a c:=
 ⟨k.os.trans h.os,k.tape.trans h.tape,k.output.trans h.output,Nat.le_trans h.size k.size,fun i hi=>(k.block i hi).trans (h.block i hi)⟩
theorem Kept.mono (h:Kept S a b) (hs:∀ k,S' k→S k):Kept S' a b:=⟨h.os,h.tape,h.output,h.size,fun k hk=>h.block k (hs k hk)⟩
theorem Kept.drew (h:Kept S a w):Kept S a w.drew:=⟨h.os,h.tape,h.output,h.size,h.block⟩
theorem Kept.drewN (h:Kept S a w) (n:Nat):Kept S a (w.drewN n):=⟨h.os,h.tape,h.output,h.size,h.block⟩
theorem Kept.alloc (h:Kept S a w) (hS:∀ k,S k→k<w.heap.size) (o:Obj):Kept S a (w.alloc o):=
 h.trans ⟨rfl,rfl,rfl,by simp,fun k hk=>Below.heap_alloc _ _ _ (hS k hk)⟩
theorem Kept.setCell (h:Kept S a w) {p:Addr} (hp:¬ S p.block) (u:Value):Kept S a (w.setCell p u):=
 h.trans ⟨rfl,rfl,rfl,by simp[World.setCell],fun k hk=>Below.heap_setCell _ _ _ _ (fun e=>hp (e ▸ hk))⟩
theorem Kept.setRow (h:Kept S a w) {g:Nat} (hp:¬ S g) (cs:Array Value):Kept S a (w.setRow g cs):=
 h.trans ⟨rfl,rfl,rfl,by simp[World.setRow],fun k hk=>setRow_other w g k cs (fun e=>hp (e ▸ hk))⟩
theorem Kept.grown (h:Kept S a w) {row:Option Nat} (hg:w.grownBy w' row) (hS:∀ k,S k→k<w.heap.size) (hr:∀ k,row=some k→¬ S k):Kept S a w':=
 h.trans ⟨hg.os,hg.tape,hg.output,hg.size,fun k hk=>hg.block k (hS k hk) (fun e=>hr k e.symm hk)⟩
theorem Kept.below (h:Kept S a w) {B:Nat} (hb:Below B w w') (hS:∀ k,S k→k<B):Kept S a w':=
 h.trans ⟨hb.os,hb.tape,hb.output,hb.size,fun k hk=>hb.block k (hS k hk)⟩
theorem Kept.to_below (h:Kept S a w) {B:Nat} (hS:∀ k,k<B→S k):Below B a w:=⟨h.os,h.tape,h.output,h.size,fun k hk=>h.block k (hS k hk)⟩
theorem Kept.cell (h:Kept S a w) {p:Addr} (hp:S p.block):w.cell? p=a.cell? p:=World.cell?_of_block (w:=a) (h.block p.block hp)
theorem Kept.frozen (h:Kept S a w) {p:Addr} (hp:S p.block):w.frozen? p=a.frozen? p:=World.frozen?_of_block (w:=a) (h.block p.block hp)
end
def Blk (w:World) (g:Nat) (t:TypeId) (cs:Array Value):Prop:=w.heap[g]?=some (.cells cs t (0,0))
section
variable {S:Nat→Prop} {w w':World} {g:Nat} {t:TypeId} {cs:Array Value}
theorem Blk.lt (h:Blk w g t cs):g<w.heap.size:=by
 rcases Nat.lt_or_ge g w.heap.size with hlt | hge
 ·exact hlt
 ·unfold Blk at h;rw[Array.getElem?_eq_none hge] at h;cases h
theorem Blk.cell (h:Blk w g t cs) (i:Nat):w.cell? ⟨g,i,none⟩=cs[i]?:=cell_of_row w g i cs t (0,0) h
theorem Blk.frozen (h:Blk w g t cs) (i:Nat):w.frozen? ⟨g,i,none⟩=false:=by
 unfold Blk at h
 simp[World.frozen?,h]
theorem Blk.new (w:World) (t:TypeId) (cs:Array Value):Blk (w.alloc (.cells cs t)) w.heap.size t cs:=heap_alloc_new w _
theorem Blk.drew (h:Blk w g t cs):Blk w.drew g t cs:=h
theorem Blk.drewN (h:Blk w g t cs) (n:Nat):Blk (w.drewN n) g t cs:=h
theorem Blk.alloc (h:Blk w g t cs) (o:Obj):Blk (w.alloc o) g t cs:=(Below.heap_alloc w o g h.lt).trans h
theorem Blk.set_ (h:Blk w g t cs) (i:Nat) (u:Value):Blk (w.setCell ⟨g,i,none⟩ u) g t (cs.setIfInBounds i u):=by
 unfold Blk at h ⊢
 simp[World.setCell,Array.getElem?_modify,h]
theorem Blk.far (h:Blk w g t cs) {p:Addr} (hp:g≠p.block) (u:Value):Blk (w.setCell p u) g t cs:=(Below.heap_setCell w p u g hp).trans h
theorem Blk.below {B:Nat} (h:Blk w g t cs) (hb:Below B w w') (hg:g<B):Blk w' g t cs:=(hb.block g hg).trans h
theorem Blk.grown {row:Option Nat} (h:Blk w g t cs) (hb:w.grownBy w' row) (hg:some g≠row):Blk w' g t cs:=(hb.block g h.lt hg).trans h
theorem Blk.kept (h:Blk w g t cs) (hb:Kept S w w') (hg:S g):Blk w' g t cs:=(hb.block g hg).trans h
theorem Blk.same (h:Blk w g t cs) {t':TypeId} {cs':Array Value} (h':Blk w g t' cs'):t=t'∧cs=cs':=by
 unfold Blk at h h'
 rw[h] at h'
 injection h' with h'
 injection h' with h1 h2
 exact⟨h2,h1⟩
theorem Blk.ne_ {g':Nat} {t':TypeId} {cs':Array Value} (h:Blk w g t cs) (h':Blk w g' t' cs') (hne:t≠t'):g≠g':=by
 rintro rfl
 exact hne (h.same h').1
end
theorem kcell {W w1:World} (hb:Below W.heap.size W w1):(∀ b o,b<W.heap.size→w1.cell? ⟨b,o,none⟩=W.cell? ⟨b,o,none⟩)∧(∀ b o,b<W.heap.size→w1.frozen? ⟨b,o,none⟩=W.frozen? ⟨b,o,none⟩):=
 ⟨fun b o h=>hb.cell (p:=⟨b,o,none⟩) h,fun b o h=>hb.frozen (p:=⟨b,o,none⟩) h⟩
end Go.Proofs.YtceflhffilldeaaGreat
namespace Go.Proofs.YtceflhffilldeaaGreat
open Go.RowKit
def Row (q:IntKind) (w:World) (v:Value) (l:List Int):Prop:=
 l.length≤9223372036854775807∧∃ A c,v=.slice A l.length c∧∀ k,k<l.length→∃ ad,A=some ad∧ad.block<w.heap.size∧w.cell? (ad.add k)=some (.int q (l.getD k 0))
theorem block_add (a:Addr) (n:Nat):(a.add n).block=a.block:=by unfold Addr.add;split<;>rfl
section
variable {q:IntKind} {w w':World} {v:Value} {l:List Int}
theorem Row.nil_:Row q w (.slice none 0 0) []:=⟨by simp,none,0,rfl,fun k hk=>absurd hk (by simp)⟩
def Row.in_ (S:Nat→Prop) (v:Value):Prop:=∀ ad n c,v=.slice (some ad) n c→0<n→S ad.block
theorem Row.kept {S:Nat→Prop} (h:Row q w v l) (hk:Kept S w w') (hS:Row.in_ S v):Row q w' v l:=by
 obtain⟨hm,A,c,rfl,hc⟩:=h
 refine⟨hm,A,c,rfl,fun k hlt=>?_⟩
 obtain⟨ad,rfl,hb,hx⟩:=hc k hlt
 exact⟨ad,rfl,Nat.lt_of_lt_of_le hb hk.size,(hk.cell (p:=ad.add k) (by rw[block_add];exact hS ad _ _ rfl (by omega))).trans hx⟩
theorem Row.lt (h:Row q w v l):Row.in_ (fun k=>k<w.heap.size) v:=by
 obtain⟨hm,A,c,rfl,hc⟩:=h
 intro ad n c' e hn
 injection e with e1 e2 e3
 subst e2
 obtain⟨ad',e,hb,_⟩:=hc 0 hn
 rw[e1] at e
 injection e with e
 subst e
 exact hb
theorem Row.below (h:Row q w v l) (hb:Below w.heap.size w w'):Row q w' v l:=h.kept ((Kept.refl (fun k=>k<w.heap.size) w).below hb fun k h=>h) h.lt
theorem Row.all (h:Row q w v l) (hk:Kept (fun _=>True) w w'):Row q w' v l:=h.kept hk (fun _ _ _ _ _=>trivial)
end
theorem region_drew {P:Program} {id:Nat} {Q:Exit→Act→World→Prop} {a:Act} {w:World} {l:List Oper} (n:Nat) (hm:P.follows .mixedOrders=true) (hB:Region.lexTailB .any l.toArray n=true)
  (h:wpStill P l.toArray w.drew (fun a'=>wpList P l.toArray Q (l.drop n) a' w.drew) (l.take n) a):(Code.region id l.toArray true).wp P Q a w:=wp_region_still_tail n hm hB h
theorem Kept.all_below {B:Nat} {w w':World} (h:Kept (fun _=>True) w w'):Below B w w':=h.to_below fun _ _=>trivial
end Go.Proofs.YtceflhffilldeaaGreat
namespace Go.Proofs.YtceflhffilldeaaGreat
open Go.RowKit Go.ChangeShapes Go.WideShapes
section
variable {H:Type} {enc:TypeId×Value→H} {P:Program} {w:World} {base:Nat} {spare:Nat→Bool} {held:Bool}
end
theorem row_of_own {q:IntKind} {w:World} {base n:Nat} {e:TypeId} {v:Value} {l:List Int} (h:w.ownsRow base e 1 v n (l.map (Value.int q))):Row q w v l:=by
 have hl:l.length=n:=by have:=h.1;simpa using this
 rcases h.2 with ⟨rfl,h0⟩ | ⟨g,cap,cur,rfl,hb,hh,hn,hc,hs,ht⟩
 ·have:l=[]:=List.eq_nil_of_length_eq_zero (by omega)
  subst this
  exact Row.nil_
 ·refine⟨by rw[hl];unfold maxLen at hc;omega,some ⟨g,0,none⟩,cap,by rw[hl],fun k hk=>⟨⟨g,0,none⟩,rfl,(h.lt g rfl).2,?_⟩⟩
  refine h.cells (g:=g) rfl k _ ?_
  rw[List.getElem?_map,List.getElem?_eq_getElem hk]
  simp[List.getD,hk]
end Go.Proofs.YtceflhffilldeaaGreat
namespace Go.Proofs.YtceflhffilldeaaGreat
open Go.RowKit
structure Cls (W:World) where
 w:World
 h:Below W.heap.size W w
instance cls_some (W:World):Nonempty (Cls W):=⟨⟨W,Below.refl _ _⟩⟩
theorem wp_region_cls {P:Program} {id:Nat} {Q:Exit→Act→World→Prop} {a:Act} {W:World} {l:List Oper} (hm:P.follows .mixedOrders=true) (hB:Region.lexB .any l.toArray=true)
  (h:wpQuiet P l.toArray (fun w'=>∃ u:Cls W,w'=u.w) (fun a'=>∀ w',(∃ u:Cls W,w'=u.w)→Q .normal a' w') l a):(Code.region id l.toArray true).wp P Q a W:=
 wp_region_quiet (C:=fun w'=>∃ u:Cls W,w'=u.w) hm hB ⟨⟨W.drew,(Below.refl _ _).drew⟩,rfl⟩ (by simpa using h)
theorem Cls.cell {W:World} {p:Addr} {x:Value} (h:W.cell? p=some x) (hp:p.block<W.heap.size) (u:Cls W):u.w.cell? p=some x:=(u.h.cell hp).trans h
theorem cls_call {P:Program} {W:World} {f:FuncId} {args:Array Value} {v:Value} {u:Cls W} (h:Calls P f args u.w fun e w'=>e=.returned v∧Below u.w.heap.size u.w w'):Calls P f args u.w fun e w''=>e=.returned v∧∃ u':Cls W,w''=u'.w:=
 h.mono fun e w' h=>⟨h.1,⟨⟨w',u.h.trans (h.2.mono u.h.size)⟩,rfl⟩⟩
end Go.Proofs.YtceflhffilldeaaGreat
