/-
  Joined: ZLwStores.
-/
import Derived.Test.YtceflhffilldeaaGreatZPutN
import Derived.Test.YtceflhffilldeaaGreatZPutS
import Derived.Test.YtceflhffilldeaaGreatZLdTop
set_option linter.unusedVariables false
set_option linter.unusedSimpArgs false
set_option maxRecDepth 100000
set_option maxHeartbeats 16000000
namespace Go.Proofs.YtceflhffilldeaaGreat
open Go.RowKit Go.Maps Go.WideMaps
namespace Plays
def putD (D:DataW Unit) (s t:ByteArray):Int×DataW Unit:=
 if nameOk s=false then (70,D) else if 131072<(t.size:Int) then (2,D) else if has D (fkey s)=false∧Maps.size D=64 then (3,D) else (0,D.put (fkey s) (text t))
def putN (N T:List ByteArray) (s t:ByteArray):Int×List ByteArray×List ByteArray:=
 if nameOk s=false then (70,N,T) else if 131072<(t.size:Int) then (2,N,T) else if (plc s N).2=true then (0,N,T.set (plc s N).1 t) else if N.length=64 then (3,N,T)
 else (0,N.take (plc s N).1++[s]++N.drop (plc s N).1,T.take (plc s N).1++[t]++T.drop (plc s N).1)
theorem put_same {D:DataW Unit} {N T:List ByteArray} (h:Rel D N T) (s t:ByteArray):(putN N T s t).1=(putD D s t).1∧Rel (putD D s t).2 (putN N T s t).2.1 (putN N T s t).2.2:=by
 unfold putN putD
 by_cases h1:nameOk s=false
 ·rw[if_pos h1,if_pos h1];exact⟨rfl,h⟩
 ·rw[if_neg h1,if_neg h1]
  have h1':nameOk s=true:=by simpa using h1
  by_cases h2:131072<(t.size:Int)
  ·rw[if_pos h2,if_pos h2];exact⟨rfl,h⟩
  ·rw[if_neg h2,if_neg h2]
   cases hp:(plc s N).2
   ·have hD:=h.del_none s h1' hp
    rw[if_neg (by simp)]
    by_cases h3:N.length=64
    ·rw[if_pos h3,if_pos ⟨hD,by rw[h.size];exact h3⟩];exact⟨rfl,h⟩
    ·rw[if_neg h3,if_neg (fun hh=>h3 (by rw[← h.size];exact hh.2))]
     refine⟨rfl,?_⟩
     have:=h.put_new s t h1' hp
     unfold insA at this
     simpa using this
   ·have hm:=(plc_mem s N h.sorted).1 hp
    have hD:=(h.has_ s h1').2 hm
    rw[if_pos rfl,if_neg (fun hh=>by rw[hD] at hh;cases hh.1)]
    exact⟨rfl,h.put_old s t h1' hp⟩
end Plays
theorem map_ne_blk {w:World} {m:Value} {n g:Nat} {D:DataW Unit} {t:TypeId} {cs:Array Value} (h:MapIs w m n D) (hb:Blk w g t cs):mapBlock m≠some g:=by
 rcases h with ⟨rfl,_⟩ | ⟨b,rfl,es,clock,hh,r⟩
 ·simp[mapBlock]
 ·intro e
  have e:=Option.some.inj e
  subst e
  unfold Blk at hb
  rw[hh] at hb;cases hb
theorem map_ne_own {w:World} {m v:Value} {n n2 base size:Nat} {D:DataW Unit} {e:TypeId} {xs:List Value} (h:MapIs w m n D) (ho:w.ownsRow base e size v n2 xs):∀ k,v.ownBlock=some k→mapBlock m≠some k:=by
 intro k hk
 rcases ho.2 with ⟨rfl,_⟩ | ⟨g,cap,cur,rfl,hg,hh,_⟩
 ·cases hk
 ·have hk:=Option.some.inj hk
  dsimp only at hk
  subst hk
  exact map_ne_blk h (t:=e) (cs:=cur) hh
theorem own_ne_blk {w:World} {v:Value} {n2 base size g:Nat} {e t:TypeId} {xs:List Value} {cs:Array Value} (ho:w.ownsRow base e size v n2 xs) (hb:Blk w g t cs) (hne:e≠t):v.ownBlock≠some g:=by
 intro hk
 rcases ho.2 with ⟨rfl,_⟩ | ⟨g',cap,cur,rfl,hg,hh,_⟩
 ·cases hk
 ·have hk:=Option.some.inj hk
  dsimp only at hk
  subst hk
  unfold Blk at hb
  rw[hh] at hb
  injection hb with hb
  injection hb with _ h2
  exact hne h2
def KeepX (W W':World):Prop:=∀ g cs,Blk W g 56 cs→Blk W' g 56 cs
theorem KeepX.below {W W':World} (hb:Below W.heap.size W W'):KeepX W W':=fun g cs h=>h.below hb h.lt
theorem KeepX.refl (W:World):KeepX W W:=fun g cs h=>h
structure Both (B:Nat) (W:World) (p q:Nat) (m:Value) (n:Nat) (D:DataW Unit) (v u:Value) (N T:List ByteArray):Prop where
 blk:Blk W p 101 #[m]
 map:MapIs W m n D
 ref:RefIs W q v u N T
 bp:B≤p
 bq:B≤q
 bm:∀ b,mapBlock m=some b→B≤b
 bv:∀ b,v.ownBlock=some b→B≤b
 bu:∀ b,u.ownBlock=some b→B≤b
 small:N.length≤64
 few:n≤100000
section
variable {B p q n:Nat} {W W':World} {m v u:Value} {D D':DataW Unit} {N T:List ByteArray}
theorem Both.pq (h:Both B W p q m n D v u N T):p≠q:=h.blk.ne_ h.ref.blk (by decide)
theorem Both.base (h:Both B W p q m n D v u N T) {B':Nat} (hb:B'≤B):Both B' W p q m n D v u N T:=
 ⟨h.blk,h.map,h.ref,Nat.le_trans hb h.bp,Nat.le_trans hb h.bq,fun b e=>Nat.le_trans hb (h.bm b e),fun b e=>Nat.le_trans hb (h.bv b e),fun b e=>Nat.le_trans hb (h.bu b e),h.small,h.few⟩
theorem Both.drew (h:Both B W p q m n D v u N T):Both B W.drew p q m n D v u N T:=
 ⟨h.blk,h.map,⟨h.ref.blk,h.ref.names,h.ref.texts,h.ref.len,h.ref.small,h.ref.np,h.ref.tp,h.ref.nt⟩,h.bp,h.bq,h.bm,h.bv,h.bu,h.small,h.few⟩
theorem Both.below (h:Both B W p q m n D v u N T) (hb:Below W.heap.size W W'):Both B W' p q m n D v u N T:=
 ⟨h.blk.below hb h.blk.lt,h.map.kept ((Kept.refl (fun k=>k<W.heap.size) W).below hb fun k hk=>hk) (fun b hb=>h.map.lt hb),
  h.ref.kept ((Kept.refl (fun k=>k<W.heap.size) W).below hb fun k hk=>hk) h.ref.blk.lt (fun k hk=>(h.ref.names.lt k hk).2) (fun k hk=>(h.ref.texts.lt k hk).2),h.bp,h.bq,h.bm,h.bv,h.bu,h.small,h.few⟩
theorem Both.prog (h:Both B W p q m n D v u N T) {m':Value} {n':Nat} {D':DataW Unit} (hk:Kept (fun k=>k<W.heap.size∧k≠p∧mapBlock m≠some k) W W') (h1:Blk W' p 101 #[m']) (h2:MapIs W' m' n' D')
  (h3:∀ b,mapBlock m'=some b→mapBlock m=some b∨W.heap.size≤b) (h4:n'≤100000):Both B W' p q m' n' D' v u N T∧Below B W W'∧KeepX W W':=by
 have hp:=h.blk.lt
 refine⟨⟨h1,h2,h.ref.kept hk ⟨h.ref.blk.lt,fun e=>h.pq e.symm,map_ne_blk h.map h.ref.blk⟩ (fun k hk=>⟨(h.ref.names.lt k hk).2,fun e=>own_ne_blk h.ref.names h.blk (by decide) (e ▸ hk),map_ne_own h.map h.ref.names k hk⟩)
  (fun k hk=>⟨(h.ref.texts.lt k hk).2,fun e=>own_ne_blk h.ref.texts h.blk (by decide) (e ▸ hk),map_ne_own h.map h.ref.texts k hk⟩),h.bp,h.bq,fun b hb=>?_,h.bv,h.bu,h.small,h4⟩,hk.to_below fun k hlt=>⟨?_,?_,fun e=>?_⟩,fun g cs hg=>hg.kept hk ⟨hg.lt,hg.ne_ h.blk (by decide),map_ne_blk h.map hg⟩⟩
 ·rcases h3 b hb with h | h'
  ·exact Both.bm ‹_› b h
  ·have:=h.bp;omega
 ·have:=h.bp;omega
 ·have:=h.bp;omega
 ·have:=h.bm k e;omega
theorem Both.docu (h:Both B W p q m n D v u N T) {v' u':Value} {N' T':List ByteArray} (hk:Kept (fun k=>k<W.heap.size∧k≠q∧v.ownBlock≠some k∧u.ownBlock≠some k) W W') (h1:RefIs W' q v' u' N' T')
  (h3:∀ b,v'.ownBlock=some b→v.ownBlock=some b∨W.heap.size≤b) (h4:∀ b,u'.ownBlock=some b→u.ownBlock=some b∨W.heap.size≤b) (h5:N'.length≤64):Both B W' p q m n D v' u' N' T'∧Below B W W'∧KeepX W W':=by
 have hp:=h.blk.lt
 have hbp:=h.bp
 refine⟨⟨h.blk.kept hk ⟨hp,h.pq,own_ne_blk h.ref.names h.blk (by decide),own_ne_blk h.ref.texts h.blk (by decide)⟩,
  h.map.kept hk (fun b hb=>⟨h.map.lt hb,fun e=>map_ne_blk h.map h.ref.blk (e ▸ hb),fun e=>map_ne_own h.map h.ref.names b e hb,fun e=>map_ne_own h.map h.ref.texts b e hb⟩),h1,h.bp,h.bq,h.bm,fun b hb=>?_,fun b hb=>?_,h5,h.few⟩,hk.to_below fun k hlt=>⟨by omega,?_,fun e=>?_,fun e=>?_⟩,fun g cs hg=>hg.kept hk ⟨hg.lt,hg.ne_ h.ref.blk (by decide),own_ne_blk h.ref.names hg (by decide),own_ne_blk h.ref.texts hg (by decide)⟩⟩
 ·rcases h3 b hb with h' | h'
  ·exact h.bv b h'
  ·omega
 ·rcases h4 b hb with h' | h'
  ·exact h.bu b h'
  ·omega
 ·have:=h.bq;omega
 ·have:=h.bv k e;omega
 ·have:=h.bu k e;omega
open Plays
theorem both_put1 (h:Both B W p q m n D v u N T) (s t:ByteArray) (hs:s.size≤9223372036854775807) (hn:n<100000) :
  Calls Tryz.prog 20 #[.pointer (some ⟨p,0,none⟩),.string s,.string t] W fun e w'=>e=.returned (.int .i64 (putD D s t).1)∧∃ m' n',Both B w' p q m' n' (putD D s t).2 v u N T∧n'≤n+1∧Below B W w'∧KeepX W w':=by
 have still:∀ {w':World},Below W.heap.size W w'→∃ m' n',Both B w' p q m' n' D v u N T∧n'≤n+1∧Below B W w'∧KeepX W w':=fun hb=>⟨m,n,h.below hb,by omega,hb.mono (by have:=h.bp;have:=h.blk.lt;omega),KeepX.below hb⟩
 unfold putD
 by_cases h1:nameOk s=false
 ·rw[if_pos h1]
  refine(store_put_bad s t _ W hs h1).mono ?_
  rintro e w' ⟨rfl,hb⟩
  exact⟨rfl,still hb⟩
 ·rw[if_neg h1]
  have h1':nameOk s=true:=by simpa using h1
  by_cases h2:131072<(t.size:Int)
  ·rw[if_pos h2]
   refine(store_put_long s t _ W hs h1' h2).mono ?_
   rintro e w' ⟨rfl,hb⟩
   exact⟨rfl,still hb⟩
  ·rw[if_neg h2]
   by_cases h3:has D (fkey s)=false∧Maps.size D=64
   ·rw[if_pos h3]
    refine(store_put_full s t p n m D W hs h.blk h.map h1' (by omega) h3.1 h3.2).mono ?_
    rintro e w' ⟨rfl,hb⟩
    exact⟨rfl,still hb⟩
   ·rw[if_neg h3]
    rcases h.map with ⟨rfl,rfl⟩ | ⟨b,rfl,hown⟩
    ·refine(store_put_nil s t p W hs h.blk h1' (by omega)).mono ?_
     rintro e w' ⟨rfl,b,hb1,hb2,hb3,hk⟩
     obtain⟨x1,x2⟩:=h.prog (hk.mono fun k hk=>⟨hk.1,hk.2.1⟩) hb1 (Or.inr ⟨b,rfl,hb2⟩) (fun b' e=>by have e:=Option.some.inj e;exact Or.inr (by omega)) (by omega)
     exact⟨rfl,_,_,x1,by omega,x2⟩
    ·have hne:=map_ne_blk h.map h.blk
     refine(store_put_some s t p n b D W hs (h.blk.cell 0) hown h1' (by omega) (by
      cases hc:has D (fkey s)
      ·exact Or.inr (fun e=>h3 ⟨hc,e⟩)
      ·exact Or.inl rfl) (by simp only[maxLen];omega)).mono ?_
     rintro e w' ⟨rfl,ho,hk⟩
     obtain⟨x1,x2⟩:=h.prog (m':=.map (some b)) (hk.mono fun k hk=>⟨hk.1,fun e=>hk.2.2 (by rw[e];rfl)⟩) (h.blk.kept hk ⟨h.blk.lt,fun e=>hne (by rw[e];rfl)⟩) (Or.inr ⟨b,rfl,ho⟩) (fun b' e=>Or.inl e) (by omega)
     exact⟨rfl,_,_,x1,by omega,x2⟩
theorem both_put2 (h:Both B W p q m n D v u N T) (hN:Sorted N) (s t:ByteArray) (hs:s.size≤9223372036854775807) :
  Calls Tryz.prog 26 #[.pointer (some ⟨q,0,none⟩),.string s,.string t] W fun e w'=>e=.returned (.int .i64 (putN N T s t).1)∧∃ v' u',Both B w' p q m n D v' u' (putN N T s t).2.1 (putN N T s t).2.2∧Below B W w'∧KeepX W w':=by
 unfold putN
 have still:∃ v' u',Both B W p q m n D v' u' N T∧Below B W W∧KeepX W W:=⟨v,u,h,Below.refl _ _,KeepX.refl _⟩
 by_cases h1:nameOk s=false
 ·rw[if_pos h1]
  refine(ref07_put_bad _ s t W hs h1).mono ?_
  rintro e w' ⟨rfl,rfl⟩
  exact⟨rfl,still⟩
 ·rw[if_neg h1]
  have h1':nameOk s=true:=by simpa using h1
  by_cases h2:131072<(t.size:Int)
  ·rw[if_pos h2]
   refine(ref07_put_long _ s t W hs h1' h2).mono ?_
   rintro e w' ⟨rfl,rfl⟩
   exact⟨rfl,still⟩
  ·rw[if_neg h2]
   cases hp:(plc s N).2
   ·rw[if_neg (by simp)]
    by_cases h3:N.length=64
    ·rw[if_pos h3]
     refine(ref07_put_full q v u N T s t W h.ref hs h1' (by omega) h3 hp).mono ?_
     rintro e w' ⟨rfl,rfl⟩
     exact⟨rfl,still⟩
    ·rw[if_neg h3]
     have hi:=plc_le s N
     have hsm:=h.small
     have hlen:(N.take (plc s N).1++[s]++N.drop (plc s N).1).length≤64:=by simp only[List.length_append,List.length_take,List.length_drop,List.length_cons,List.length_nil];omega
     have hpl:plc s N=((plc s N).1,false):=by rw[← hp]
     generalize (plc s N).1=i at *
     rcases own_cases h.ref.names with ⟨rfl,h0⟩ | ⟨g,c,rfl,hc⟩
     ·refine(ref07_put_nil q i u N T s t W h.ref hi h0 hs h1' (by omega) h3 (by omega) hpl).mono ?_
      rintro e w' ⟨rfl,v',u',r1,r2,r3,hk⟩
      obtain⟨x1,x2⟩:=h.docu (hk.mono fun k hk=>⟨hk.1,hk.2.1⟩) r1 (fun b hb=>Or.inr (r2 b hb)) (fun b hb=>Or.inr (r3 b hb)) hlen
      exact⟨rfl,_,_,x1,x2⟩
     ·refine(ref07_put_some q i g c u N T s t W h.ref hi hc hs h1' (by omega) h3 (by omega) hpl).mono ?_
      rintro e w' ⟨rfl,v',u',r1,r2,r3,hk⟩
      obtain⟨x1,x2⟩:=h.docu (hk.mono fun k hk=>⟨hk.1,hk.2.1⟩) r1 (fun b hb=>Or.inr (r2 b hb)) (fun b hb=>Or.inr (r3 b hb)) hlen
      exact⟨rfl,_,_,x1,x2⟩
   ·rw[if_pos rfl]
    have hi:=(plc_there s N hN hp).1
    have hpl:plc s N=((plc s N).1,true):=by rw[← hp]
    generalize (plc s N).1=i at *
    refine(ref07_put_old q i v u N T s t W h.ref hi hs h1' (by omega) hpl).mono ?_
    rintro e w' ⟨rfl,r1,hk⟩
    obtain⟨x1,x2⟩:=h.docu (hk.mono fun k hk=>⟨hk.1,hk.2.2.2⟩) r1 (fun b hb=>Or.inl hb) (fun b hb=>Or.inl hb) h.small
    exact⟨rfl,_,_,x1,x2⟩
def gotN (N T:List ByteArray) (s:ByteArray):ByteArray×Bool:=(if (plc s N).2=true then T.getD (plc s N).1 ⟨#[]⟩ else ⟨#[]⟩,(plc s N).2)
theorem gotN_of {D:DataW Unit} {N T:List ByteArray} (h:Rel D N T) (s t:ByteArray) (hs:nameOk s=true) (ht:D.atKey (fkey s) (text ⟨#[]⟩)=text t):(t,has D (fkey s))=gotN N T s:=by
 unfold gotN
 cases hp:(plc s N).2
 ·have hD:=h.del_none s hs hp
  rw[hD,if_neg (by simp)]
  rw[atKey_of_not_has hD] at ht
  unfold text at ht
  injection ht with ht
  injection ht with ht
  rw[show t=⟨#[]⟩ from ByteArray.ext (Array.toList_inj.1 (by simpa using ht.symm))]
 ·obtain⟨i1,i2⟩:=plc_there s N h.sorted hp
  have hm:=(plc_mem s N h.sorted).1 hp
  have hD:=(h.has_ s hs).2 hm
  have iT:(plc s N).1<T.length:=by rw[← h.len];exact i1
  have e1:N[(plc s N).1]?=some s:=by
   rw[List.getD_eq_getElem?_getD,List.getElem?_eq_getElem i1] at i2
   rw[List.getElem?_eq_getElem i1]
   simpa using i2
  have:=h.get (plc s N).1 s (T.getD (plc s N).1 ⟨#[]⟩) e1 (by simp[List.getD,iT])
  rw[this] at ht
  unfold text at ht
  injection ht with ht
  injection ht with ht
  rw[hD,if_pos rfl,show t=T.getD (plc s N).1 ⟨#[]⟩ from ByteArray.ext (Array.toList_inj.1 ht.symm)]
theorem plc_bad {D:DataW Unit} {N T:List ByteArray} (h:Rel D N T) (s:ByteArray) (hs:nameOk s=false):(plc s N).2=false:=by
 cases hp:(plc s N).2
 ·rfl
 ·have:=h.ok s ((plc_mem s N h.sorted).1 hp)
  rw[hs] at this;cases this
end
end Go.Proofs.YtceflhffilldeaaGreat
namespace Go.Proofs.YtceflhffilldeaaGreat
open Go.RowKit Go.Maps Go.WideMaps Plays ObjL Ldr
abbrev BA:=ByteArray
def fileIs (w:World) (f:BA×BA) (j:Nat) (x:Value):Prop:=(j=0→x=.string f.1)∧(j=1→x=.string f.2)
def FRow (w:World) (v:Value) (l:List (BA×BA)):Prop:=RowOf 2 fileIs w v l
theorem FRow.below {w w':World} {v:Value} {l:List (BA×BA)} (h:FRow w v l) (hb:Below w.heap.size w w'):FRow w' v l:=RowOf.below h hb fun x _ j y hy=>hy
def fileAt (l:List (BA×BA)) (k:Nat):BA×BA:=l.getD k (⟨#[]⟩,⟨#[]⟩)
def stN (l:List (BA×BA)) (k:Nat):List BA×List BA:=iter (fun i s=>(putN s.1 s.2 (fileAt l i).1 (fileAt l i).2).2) ([],[]) k
def stD (l:List (BA×BA)) (k:Nat):DataW Unit:=iter (fun i D=>(putD D (fileAt l i).1 (fileAt l i).2).2) (.map []) k
def sumF (l:List (BA×BA)) (k:Nat):Int:=iter (fun i n=>IntKind.i64.wrap (n+IntKind.i64.wrap (((fileAt l i).2.size:Int)+((fileAt l i).1.size:Int)))) 0 k
def TOk (T:List BA):Prop:=∀ t∈T,t.size≤131072
theorem tok_put {N T:List BA} (h:TOk T) (s t:BA):TOk (putN N T s t).2.2:=by
 unfold putN
 split
 ·exact h
 ·split
  ·exact h
  ·rename_i h2
   have ht:t.size≤131072:=by omega
   split
   ·intro x hx
    rcases List.mem_or_eq_of_mem_set hx with hx | hx
    ·exact h x hx
    ·rw[hx];exact ht
   ·split
    ·exact h
    ·intro x hx
     simp only[List.mem_append,List.mem_singleton] at hx
     rcases hx with (hx | hx) | hx
     ·exact h x (List.mem_of_mem_take hx)
     ·rw[hx];exact ht
     ·exact h x (List.mem_of_mem_drop hx)
theorem st_rel (l:List (BA×BA)):∀ k,Rel (stD l k) (stN l k).1 (stN l k).2∧TOk (stN l k).2
 | 0=>⟨Rel.empty,fun t ht=>by cases ht⟩
 | k+1=>by
  obtain⟨h1,h2⟩:=st_rel l k
  exact⟨(put_same h1 _ _).2,tok_put h2 _ _⟩
def storeG (N T:List BA):Files:=fun nm=>if (gotN N T (txt nm)).2=true then some (gotN N T (txt nm)).1.data.toList else none
theorem tok_got {N T:List BA} (h:TOk T) (s:BA):(gotN N T s).1.size≤131072:=by
 unfold gotN
 dsimp only
 split
 ·rw[List.getD_eq_getElem?_getD]
  cases hx:T[(plc s N).1]? with
  | none=>show (⟨#[]⟩:BA).size≤131072;decide
  | some t=>exact h t (List.mem_of_getElem? hx)
 ·show (⟨#[]⟩:BA).size≤131072;decide
theorem getOk_of {B p q n:Nat} {W:World} {m v u:Value} {D:DataW Unit} {N T:List BA} (h:Both B W p q m n D v u N T) (hr:Rel D N T) (hT:TOk T):GetOk (storeG N T) W.heap.size p W:=by
 intro w hb nm hnm
 have hb':=h.below hb
 have hs:(txt nm).size≤9223372036854775807:=by rw[txt_size];omega
 have key:∀ (b:Bool) (t:BA),(t,b)=gotN N T (txt nm)→∃ t',Value.tuple #[.string t,.bool b]=.tuple #[.string (txt t'),.bool (storeG N T nm).isSome]∧(storeG N T nm=some t'∨storeG N T nm=none)∧t'.length≤131072:=by
  intro b t e
  have hz:=tok_got hT (N:=N) (txt nm)
  have e1:t=(gotN N T (txt nm)).1:=by rw[← e]
  have e2:b=(gotN N T (txt nm)).2:=by rw[← e]
  refine⟨t.data.toList,?_,?_,?_⟩
  ·rw[txt_of]
   unfold storeG
   rw[e2]
   cases (gotN N T (txt nm)).2<;>rfl
  ·unfold storeG
   rw[← e1,← e2]
   cases b
   ·exact Or.inr rfl
   ·exact Or.inl rfl
  ·rw[← e1] at hz
   have:t.data.toList.length=t.size:=by rw[Array.length_toList];rfl
   omega
 cases h1:nameOk (txt nm) with
 | false=>
  refine(store_get_bad (txt nm) _ w hs h1).mono ?_
  rintro e w' ⟨rfl,hb2⟩
  have hp:=plc_bad hr (txt nm) h1
  obtain⟨t',x1,x2,x3⟩:=key false ⟨#[]⟩ (by unfold gotN;rw[hp];rfl)
  exact⟨⟨t',by rw[x1],x2,x3⟩,hb2⟩
 | true=>
  refine(store_get (txt nm) p n m D w hs hb'.blk hb'.map h1).mono ?_
  rintro e w' ⟨⟨t,rfl,ht⟩,hb2⟩
  obtain⟨t',x1,x2,x3⟩:=key _ t (gotN_of hr (txt nm) t h1 ht)
  exact⟨⟨t',by rw[x1],x2,x3⟩,hb2⟩
def SideF (B:Nat) (W:World) (p q:Nat) (l:List (BA×BA)) (k:Nat):Prop:=∃ m n v u,Both B W p q m n (stD l k) v u (stN l k).1 (stN l k).2∧n≤100+k
theorem sideF_start (w:World) (l:List (BA×BA)):SideF w.heap.size ((w.alloc (.cells #[.map none] 101)).alloc (.cells #[.slice none 0 0,.slice none 0 0] 76)) w.heap.size (w.heap.size+1) l 0:=by
 have e1:(w.alloc (.cells #[.map none] 101)).heap.size=w.heap.size+1:=by simp
 have b2:=Blk.new (w.alloc (.cells #[.map none] 101)) 76 #[.slice none 0 0,.slice none 0 0]
 rw[e1] at b2
 exact⟨.map none,0,_,_,⟨(Blk.new w _ _).alloc _,Or.inl ⟨rfl,rfl⟩,⟨b2,World.ownsRow_nil _ _ _ _,World.ownsRow_nil _ _ _ _,rfl,by simp[stN,iter],(fun k hk=>by cases hk),(fun k hk=>by cases hk),(fun k hk=>by cases hk)⟩,
  Nat.le_refl _,by omega,(fun b hb=>by cases hb),(fun b hb=>by cases hb),(fun b hb=>by cases hb),by simp[stN,iter],by omega⟩,by omega⟩
def StoresEnd (w:World) (l:List (BA×BA)) (e:Ending) (w':World):Prop:=
 ∃ p q k ok,e=.returned (.tuple #[.pointer (some ⟨p,0,none⟩),.pointer (some ⟨q,0,none⟩),.bool ok])∧SideF w.heap.size w' p q l k∧Below w.heap.size w w'∧(ok=true→k=min l.length 70)∧(ok=false→∃ j,j<min l.length 70∧400000<sumF l (j+1))
theorem law26_stores (l:List (BA×BA)) (vs:Value) (w:World) (hv:FRow w vs l) (hsz:∀ x∈l,x.1.size≤9223372036854775807∧x.2.size≤9223372036854775807) :
  Calls Tryz.prog 8 #[vs] w (StoresEnd w l):=by
 have hv':=zh hv
 obtain⟨hm,A,c,rfl,-⟩:=hv
 have hsz':=zh hsz
 clear hsz
 have SS:=zh (sideF_start w l)
 go_enter Tryz.func8,Tryz.ntmps8
 go_wp2_with fail
 refine(store_new _).mono ?_
 rintro e w1 ⟨rfl,rfl⟩
 go_wp2_with fail
 have B0:Below w.heap.size w ((w.alloc (.cells #[.map none] 101)).alloc (.cells #[.slice none 0 0,.slice none 0 0] 76)):=((Below.refl _ _).alloc (Nat.le_refl _) _).alloc (by simp) _
 have B0:=zh B0
 generalize (w.alloc (.cells #[.map none] 101)).alloc (.cells #[.slice none 0 0,.slice none 0 0] 76)=W0 at *
 go_loopw [7,8] (fun nv iv wr=>∃ k:Nat,iv=.int .i64 k∧nv=.int .i64 (sumF l k)∧k≤l.length∧k≤70∧Hid (SideF w.heap.size wr w.heap.size (w.heap.size+1) l k)∧Hid (Below w.heap.size w wr)) (fun _ iv _=>70-(intOf iv).toNat)
 case atStart=>exact⟨0,rfl,rfl,by omega,by omega,SS,B0⟩
 case round=>
  clear SS B0
  obtain⟨k,rfl,rfl,hk,hk7,hS,hB⟩:=hrel
  by_cases hlt:(k:Int)<(l.length:Int)
  ·by_cases hl2:(k:Int)<70
   ·obtain⟨-,A1,c1,e1,hc⟩:=hv'.out
    injection e1 with e1 _ e2
    subst e1 e2
    obtain⟨ad,rfl,hadw,x01⟩:=hc k (by omega)
    obtain⟨y0,x0,q0⟩:=x01 0 (by decide)
    obtain⟨y1,x1,q1⟩:=x01 1 (by decide)
    obtain rfl:=q0.1 rfl
    obtain rfl:=q1.2 rfl
    obtain⟨s1,s2⟩:=hsz'.out _ (List.getElem_mem (show k<l.length by omega))
    have hfk:fileAt l k=l[k]:=by unfold fileAt;rw[List.getD_eq_getElem?_getD,List.getElem?_eq_getElem (by omega)];rfl
    have hsum:Hid (sumF l (k+1)=IntKind.i64.wrap (sumF l k+IntKind.i64.wrap ((l[k].2.size:Int)+(l[k].1.size:Int)))):=zh (by rw[← hfk];rfl)
    have hN1:Hid (stN l (k+1)=(putN (stN l k).1 (stN l k).2 l[k].1 l[k].2).2):=zh (by rw[← hfk];rfl)
    have hD1:Hid (stD l (k+1)=(putD (stD l k) l[k].1 l[k].2).2):=zh (by rw[← hfk];rfl)
    clear hc x01 q0 q1 hfk
    generalize l[k].1=nm at *
    generalize l[k].2=tx at *
    have hcl:Hid (∀ W',Below w.heap.size w W'→W'.cell? (ad.add (k*2))=some (.string nm)∧W'.cell? ⟨(ad.add (k*2)).block,(ad.add (k*2)).off+1,none⟩=some (.string tx)):=zh fun W' hb=>⟨(hb.cell (p:=ad.add (k*2)) (by rw[block_add];exact hadw)).trans x0,(hb.cell (p:=⟨(ad.add (k*2)).block,(ad.add (k*2)).off+1,none⟩) (by show (ad.add (k*2)).block<_;rw[block_add];exact hadw)).trans x1⟩
    clear x0 x1
    obtain⟨x0,x1⟩:=hcl.out wr hB.out
    generalize sumF l k=z at *
    go_upto_region 6 with fail
    refine region_drew 15 (by kernel_rfl) (by kernel_rfl) ?_
    simp only[List.take_succ_cons,List.take_zero,List.drop_succ_cons,List.drop_zero]
    repeat still_step
    refine wpStill_nil ?_
    generalize hz2:IntKind.i64.wrap (z+IntKind.i64.wrap ((tx.size:Int)+(nm.size:Int)))=z2 at *
    have hz2h:=zh hz2
    clear hz2
    have hBd:=zh hB.out.drew
    obtain⟨m0,n0,v0,u0,hb0,hn0⟩:=hS.out
    have hb:=zh hb0.drew
    obtain⟨hr0,ht0⟩:=st_rel l k
    have P1:=zh (both_put1 hb0.drew.drew nm tx s1 (by omega))
    have hps:=put_same hr0 nm tx
    have P2':∀ {W m n v u},Both w.heap.size W w.heap.size (w.heap.size+1) m n (putD (stD l k) nm tx).2 v u (stN l k).1 (stN l k).2→Hid (Calls Tryz.prog 26 #[.pointer (some ⟨w.heap.size+1,0,none⟩),.string nm,.string tx] W fun e w'=>e=.returned (.int .i64 (putD (stD l k) nm tx).1)∧∃ v' u',Both w.heap.size w' w.heap.size (w.heap.size+1) m n (putD (stD l k) nm tx).2 v' u' (putN (stN l k).1 (stN l k).2 nm tx).2.1 (putN (stN l k).1 (stN l k).2 nm tx).2.2∧Below w.heap.size W w'∧KeepX W w'):=fun h=>zh (by
     have:=both_put2 h hr0.sorted nm tx s1
     rw[hps.1] at this
     exact this)
    clear hb0 hS hr0 ht0 hps
    have hadB:ad.block<w.heap.size:=hadw
    have hcell:Hid (∀ W',Below w.heap.size w W'→W'.cell? (ad.add (k*2))=some (.string nm)∧W'.cell? ⟨(ad.add (k*2)).block,(ad.add (k*2)).off+1,none⟩=some (.string tx)):=hcl
    clear x0 x1 hB
    generalize wr.drew=wd at *
    go_upto_region 7 with fail
    by_cases hbig:400000<z2
    ·go_wp2_with fail
     refine bodyPost_ret (v:=.tuple #[.pointer (some ⟨w.heap.size,0,none⟩),.pointer (some ⟨w.heap.size+1,0,none⟩),.bool false]) (by simp only[results,Tryz.results8];go_simp) rfl ?_
     exact⟨_,_,k,false,rfl,⟨m0,n0,v0,u0,hb.out,hn0⟩,hBd.out,(fun h=>by cases h),fun _=>⟨k,by omega,by rw[hsum.out];exact hbig⟩⟩
    ·go_upto_region 9 with fail
     have B9:=hBd.out
     obtain⟨c1,c2⟩:=hcell.out wd.drew B9.drew
     go_region_held3 (fun w'=>w'.cell? (ad.add (k*2))=some (.string nm)∧w'.cell? ⟨(ad.add (k*2)).block,(ad.add (k*2)).off+1,none⟩=some (.string tx)) (first | exact⟨c1,c2⟩ | exact⟨y1,y2⟩ | exact⟨z1,z2'⟩)
      (first
       | (go_at_call 20;refine P1.out.mono ?_;rintro e w2 ⟨rfl,m2,n2,hb2,hn2,hB2,hx2⟩;obtain⟨y1,y2⟩:=hcell.out w2 (hBd.out.drew.trans hB2);have hb2:=zh hb2;have hB2:=zh (hBd.out.drew.trans hB2);clear hx2)
       | (go_at_call 26;refine(P2' hb2.out).out.mono ?_;rintro e w3 ⟨rfl,v3,u3,hb3,hB3,hx3⟩;obtain⟨z1,z2'⟩:=hcell.out w3 (hB2.out.trans hB3);have hb3:=zh hb3;have hB3:=zh (hB2.out.trans hB3);clear hx3))
     have hSn:Hid (SideF w.heap.size w3 w.heap.size (w.heap.size+1) l (k+1)):=zh ⟨m2,n2,v3,u3,by rw[hD1.out,hN1.out];exact hb3.out,by omega⟩
     have hs2:=hsum.out
     clear z1 z2' y1 y2 c1 c2 P1 P2' hcell hcl
     go_wp2_with fail
     exact⟨⟨k+1,by go_num,by rw[hs2],by omega,by omega,hSn,hB3⟩,by simp[intOf];omega⟩
   ·obtain rfl:k=70:=by omega
    go_wp2_with fail
    refine bodyPost_ret (v:=.tuple #[.pointer (some ⟨w.heap.size,0,none⟩),.pointer (some ⟨w.heap.size+1,0,none⟩),.bool true]) (by simp only[results,Tryz.results8];go_simp) rfl ?_
    exact⟨_,_,70,true,rfl,hS.out,hB.out,(fun _=>by omega),fun h=>by cases h⟩
  ·obtain rfl:k=l.length:=by omega
   go_wp2_with fail
   refine bodyPost_ret (v:=.tuple #[.pointer (some ⟨w.heap.size,0,none⟩),.pointer (some ⟨w.heap.size+1,0,none⟩),.bool true]) (by simp only[results,Tryz.results8];go_simp) rfl ?_
   exact⟨_,_,l.length,true,rfl,hS.out,hB.out,(fun _=>by omega),fun h=>by cases h⟩
end Go.Proofs.YtceflhffilldeaaGreat
