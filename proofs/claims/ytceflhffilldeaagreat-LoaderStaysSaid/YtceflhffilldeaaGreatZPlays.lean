/-
  Joined: ZPlays.
-/
import Derived.Test.YtceflhffilldeaaGreatZPutN
import Derived.Test.YtceflhffilldeaaGreatZPutS
import Derived.Test.YtceflhffilldeaaGreatSortLay
set_option linter.unusedVariables false
set_option linter.unusedSimpArgs false
set_option maxRecDepth 100000
set_option maxHeartbeats 16000000
namespace Go.Proofs.YtceflhffilldeaaGreat
open Go.RowKit Go.Maps Go.WideMaps
namespace Plays
def putD (D:DataW Unit) (s t:ByteArray):Int×DataW Unit:=
 if nameOk s=false then (70,D) else if 131072<(t.size:Int) then (2,D) else if has D (fkey s)=false∧Maps.size D=64 then (3,D) else (0,D.put (fkey s) (text t))
def putN (N T:List ByteArray) (s t:ByteArray):Int×List ByteArray×List ByteArray:=
 if nameOk s=false then (70,N,T) else if 131072<(t.size:Int) then (2,N,T) else if (plc s N).2=true then (0,N,T.set (plc s N).1 t) else if N.length=64 then (3,N,T)
 else (0,N.take (plc s N).1++[s]++N.drop (plc s N).1,T.take (plc s N).1++[t]++T.drop (plc s N).1)
theorem put_same {D:DataW Unit} {N T:List ByteArray} (h:Rel D N T) (s t:ByteArray):(putN N T s t).1=(putD D s t).1∧Rel (putD D s t).2 (putN N T s t).2.1 (putN N T s t).2.2:=by
 unfold putN putD
 by_cases h1:nameOk s=false
 ·rw[if_pos h1,if_pos h1];exact⟨rfl,h⟩
 ·rw[if_neg h1,if_neg h1]
  have h1':nameOk s=true:=by simpa using h1
  by_cases h2:131072<(t.size:Int)
  ·rw[if_pos h2,if_pos h2];exact⟨rfl,h⟩
  ·rw[if_neg h2,if_neg h2]
   cases hp:(plc s N).2
   ·have hD:=h.del_none s h1' hp
    rw[if_neg (by simp)]
    by_cases h3:N.length=64
    ·rw[if_pos h3,if_pos ⟨hD,by rw[h.size];exact h3⟩];exact⟨rfl,h⟩
    ·rw[if_neg h3,if_neg (fun hh=>h3 (by rw[← h.size];exact hh.2))]
     refine⟨rfl,?_⟩
     have:=h.put_new s t h1' hp
     unfold insA at this
     simpa using this
   ·have hm:=(plc_mem s N h.sorted).1 hp
    have hD:=(h.has_ s h1').2 hm
    rw[if_pos rfl,if_neg (fun hh=>by rw[hD] at hh;cases hh.1)]
    exact⟨rfl,h.put_old s t h1' hp⟩
end Plays
theorem map_ne_blk {w:World} {m:Value} {n g:Nat} {D:DataW Unit} {t:TypeId} {cs:Array Value} (h:MapIs w m n D) (hb:Blk w g t cs):mapBlock m≠some g:=by
 rcases h with ⟨rfl,_⟩ | ⟨b,rfl,es,clock,hh,r⟩
 ·simp[mapBlock]
 ·intro e
  have e:=Option.some.inj e
  subst e
  unfold Blk at hb
  rw[hh] at hb;cases hb
theorem map_ne_own {w:World} {m v:Value} {n n2 base size:Nat} {D:DataW Unit} {e:TypeId} {xs:List Value} (h:MapIs w m n D) (ho:w.ownsRow base e size v n2 xs):∀ k,v.ownBlock=some k→mapBlock m≠some k:=by
 intro k hk
 rcases ho.2 with ⟨rfl,_⟩ | ⟨g,cap,cur,rfl,hg,hh,_⟩
 ·cases hk
 ·have hk:=Option.some.inj hk
  dsimp only at hk
  subst hk
  exact map_ne_blk h (t:=e) (cs:=cur) hh
theorem own_ne_blk {w:World} {v:Value} {n2 base size g:Nat} {e t:TypeId} {xs:List Value} {cs:Array Value} (ho:w.ownsRow base e size v n2 xs) (hb:Blk w g t cs) (hne:e≠t):v.ownBlock≠some g:=by
 intro hk
 rcases ho.2 with ⟨rfl,_⟩ | ⟨g',cap,cur,rfl,hg,hh,_⟩
 ·cases hk
 ·have hk:=Option.some.inj hk
  dsimp only at hk
  subst hk
  unfold Blk at hb
  rw[hh] at hb
  injection hb with hb
  injection hb with _ h2
  exact hne h2
def KeepX (W W':World):Prop:=∀ g cs,Blk W g 56 cs→Blk W' g 56 cs
theorem KeepX.below {W W':World} (hb:Below W.heap.size W W'):KeepX W W':=fun g cs h=>h.below hb h.lt
theorem KeepX.refl (W:World):KeepX W W:=fun g cs h=>h
structure Both (B:Nat) (W:World) (p q:Nat) (m:Value) (n:Nat) (D:DataW Unit) (v u:Value) (N T:List ByteArray):Prop where
 blk:Blk W p 101 #[m]
 map:MapIs W m n D
 ref:RefIs W q v u N T
 bp:B≤p
 bq:B≤q
 bm:∀ b,mapBlock m=some b→B≤b
 bv:∀ b,v.ownBlock=some b→B≤b
 bu:∀ b,u.ownBlock=some b→B≤b
 small:N.length≤64
 few:n≤100000
section
variable {B p q n:Nat} {W W':World} {m v u:Value} {D D':DataW Unit} {N T:List ByteArray}
theorem Both.pq (h:Both B W p q m n D v u N T):p≠q:=h.blk.ne_ h.ref.blk (by decide)
theorem Both.base (h:Both B W p q m n D v u N T) {B':Nat} (hb:B'≤B):Both B' W p q m n D v u N T:=
 ⟨h.blk,h.map,h.ref,Nat.le_trans hb h.bp,Nat.le_trans hb h.bq,fun b e=>Nat.le_trans hb (h.bm b e),fun b e=>Nat.le_trans hb (h.bv b e),fun b e=>Nat.le_trans hb (h.bu b e),h.small,h.few⟩
theorem Both.drew (h:Both B W p q m n D v u N T):Both B W.drew p q m n D v u N T:=
 ⟨h.blk,h.map,⟨h.ref.blk,h.ref.names,h.ref.texts,h.ref.len,h.ref.small,h.ref.np,h.ref.tp,h.ref.nt⟩,h.bp,h.bq,h.bm,h.bv,h.bu,h.small,h.few⟩
theorem Both.below (h:Both B W p q m n D v u N T) (hb:Below W.heap.size W W'):Both B W' p q m n D v u N T:=
 ⟨h.blk.below hb h.blk.lt,h.map.kept ((Kept.refl (fun k=>k<W.heap.size) W).below hb fun k hk=>hk) (fun b hb=>h.map.lt hb),
  h.ref.kept ((Kept.refl (fun k=>k<W.heap.size) W).below hb fun k hk=>hk) h.ref.blk.lt (fun k hk=>(h.ref.names.lt k hk).2) (fun k hk=>(h.ref.texts.lt k hk).2),h.bp,h.bq,h.bm,h.bv,h.bu,h.small,h.few⟩
theorem Both.prog (h:Both B W p q m n D v u N T) {m':Value} {n':Nat} {D':DataW Unit} (hk:Kept (fun k=>k<W.heap.size∧k≠p∧mapBlock m≠some k) W W') (h1:Blk W' p 101 #[m']) (h2:MapIs W' m' n' D')
  (h3:∀ b,mapBlock m'=some b→mapBlock m=some b∨W.heap.size≤b) (h4:n'≤100000):Both B W' p q m' n' D' v u N T∧Below B W W'∧KeepX W W':=by
 have hp:=h.blk.lt
 refine⟨⟨h1,h2,h.ref.kept hk ⟨h.ref.blk.lt,fun e=>h.pq e.symm,map_ne_blk h.map h.ref.blk⟩ (fun k hk=>⟨(h.ref.names.lt k hk).2,fun e=>own_ne_blk h.ref.names h.blk (by decide) (e ▸ hk),map_ne_own h.map h.ref.names k hk⟩)
  (fun k hk=>⟨(h.ref.texts.lt k hk).2,fun e=>own_ne_blk h.ref.texts h.blk (by decide) (e ▸ hk),map_ne_own h.map h.ref.texts k hk⟩),h.bp,h.bq,fun b hb=>?_,h.bv,h.bu,h.small,h4⟩,hk.to_below fun k hlt=>⟨?_,?_,fun e=>?_⟩,fun g cs hg=>hg.kept hk ⟨hg.lt,hg.ne_ h.blk (by decide),map_ne_blk h.map hg⟩⟩
 ·rcases h3 b hb with h | h'
  ·exact Both.bm ‹_› b h
  ·have:=h.bp;omega
 ·have:=h.bp;omega
 ·have:=h.bp;omega
 ·have:=h.bm k e;omega
theorem Both.docu (h:Both B W p q m n D v u N T) {v' u':Value} {N' T':List ByteArray} (hk:Kept (fun k=>k<W.heap.size∧k≠q∧v.ownBlock≠some k∧u.ownBlock≠some k) W W') (h1:RefIs W' q v' u' N' T')
  (h3:∀ b,v'.ownBlock=some b→v.ownBlock=some b∨W.heap.size≤b) (h4:∀ b,u'.ownBlock=some b→u.ownBlock=some b∨W.heap.size≤b) (h5:N'.length≤64):Both B W' p q m n D v' u' N' T'∧Below B W W'∧KeepX W W':=by
 have hp:=h.blk.lt
 have hbp:=h.bp
 refine⟨⟨h.blk.kept hk ⟨hp,h.pq,own_ne_blk h.ref.names h.blk (by decide),own_ne_blk h.ref.texts h.blk (by decide)⟩,
  h.map.kept hk (fun b hb=>⟨h.map.lt hb,fun e=>map_ne_blk h.map h.ref.blk (e ▸ hb),fun e=>map_ne_own h.map h.ref.names b e hb,fun e=>map_ne_own h.map h.ref.texts b e hb⟩),h1,h.bp,h.bq,h.bm,fun b hb=>?_,fun b hb=>?_,h5,h.few⟩,hk.to_below fun k hlt=>⟨by omega,?_,fun e=>?_,fun e=>?_⟩,fun g cs hg=>hg.kept hk ⟨hg.lt,hg.ne_ h.ref.blk (by decide),own_ne_blk h.ref.names hg (by decide),own_ne_blk h.ref.texts hg (by decide)⟩⟩
 ·rcases h3 b hb with h' | h'
  ·exact h.bv b h'
  ·omega
 ·rcases h4 b hb with h' | h'
  ·exact h.bu b h'
  ·omega
 ·have:=h.bq;omega
 ·have:=h.bv k e;omega
 ·have:=h.bu k e;omega
open Plays
theorem both_put1 (h:Both B W p q m n D v u N T) (s t:ByteArray) (hs:s.size≤9223372036854775807) (hn:n<100000) :
  Calls Tryz.prog 20 #[.pointer (some ⟨p,0,none⟩),.string s,.string t] W fun e w'=>e=.returned (.int .i64 (putD D s t).1)∧∃ m' n',Both B w' p q m' n' (putD D s t).2 v u N T∧n'≤n+1∧Below B W w'∧KeepX W w':=by
 have still:∀ {w':World},Below W.heap.size W w'→∃ m' n',Both B w' p q m' n' D v u N T∧n'≤n+1∧Below B W w'∧KeepX W w':=fun hb=>⟨m,n,h.below hb,by omega,hb.mono (by have:=h.bp;have:=h.blk.lt;omega),KeepX.below hb⟩
 unfold putD
 by_cases h1:nameOk s=false
 ·rw[if_pos h1]
  refine(store_put_bad s t _ W hs h1).mono ?_
  rintro e w' ⟨rfl,hb⟩
  exact⟨rfl,still hb⟩
 ·rw[if_neg h1]
  have h1':nameOk s=true:=by simpa using h1
  by_cases h2:131072<(t.size:Int)
  ·rw[if_pos h2]
   refine(store_put_long s t _ W hs h1' h2).mono ?_
   rintro e w' ⟨rfl,hb⟩
   exact⟨rfl,still hb⟩
  ·rw[if_neg h2]
   by_cases h3:has D (fkey s)=false∧Maps.size D=64
   ·rw[if_pos h3]
    refine(store_put_full s t p n m D W hs h.blk h.map h1' (by omega) h3.1 h3.2).mono ?_
    rintro e w' ⟨rfl,hb⟩
    exact⟨rfl,still hb⟩
   ·rw[if_neg h3]
    rcases h.map with ⟨rfl,rfl⟩ | ⟨b,rfl,hown⟩
    ·refine(store_put_nil s t p W hs h.blk h1' (by omega)).mono ?_
     rintro e w' ⟨rfl,b,hb1,hb2,hb3,hk⟩
     obtain⟨x1,x2⟩:=h.prog (hk.mono fun k hk=>⟨hk.1,hk.2.1⟩) hb1 (Or.inr ⟨b,rfl,hb2⟩) (fun b' e=>by have e:=Option.some.inj e;exact Or.inr (by omega)) (by omega)
     exact⟨rfl,_,_,x1,by omega,x2⟩
    ·have hne:=map_ne_blk h.map h.blk
     refine(store_put_some s t p n b D W hs (h.blk.cell 0) hown h1' (by omega) (by
      cases hc:has D (fkey s)
      ·exact Or.inr (fun e=>h3 ⟨hc,e⟩)
      ·exact Or.inl rfl) (by simp only[maxLen];omega)).mono ?_
     rintro e w' ⟨rfl,ho,hk⟩
     obtain⟨x1,x2⟩:=h.prog (m':=.map (some b)) (hk.mono fun k hk=>⟨hk.1,fun e=>hk.2.2 (by rw[e];rfl)⟩) (h.blk.kept hk ⟨h.blk.lt,fun e=>hne (by rw[e];rfl)⟩) (Or.inr ⟨b,rfl,ho⟩) (fun b' e=>Or.inl e) (by omega)
     exact⟨rfl,_,_,x1,by omega,x2⟩
theorem both_put2 (h:Both B W p q m n D v u N T) (hN:Sorted N) (s t:ByteArray) (hs:s.size≤9223372036854775807) :
  Calls Tryz.prog 26 #[.pointer (some ⟨q,0,none⟩),.string s,.string t] W fun e w'=>e=.returned (.int .i64 (putN N T s t).1)∧∃ v' u',Both B w' p q m n D v' u' (putN N T s t).2.1 (putN N T s t).2.2∧Below B W w'∧KeepX W w':=by
 unfold putN
 have still:∃ v' u',Both B W p q m n D v' u' N T∧Below B W W∧KeepX W W:=⟨v,u,h,Below.refl _ _,KeepX.refl _⟩
 by_cases h1:nameOk s=false
 ·rw[if_pos h1]
  refine(ref07_put_bad _ s t W hs h1).mono ?_
  rintro e w' ⟨rfl,rfl⟩
  exact⟨rfl,still⟩
 ·rw[if_neg h1]
  have h1':nameOk s=true:=by simpa using h1
  by_cases h2:131072<(t.size:Int)
  ·rw[if_pos h2]
   refine(ref07_put_long _ s t W hs h1' h2).mono ?_
   rintro e w' ⟨rfl,rfl⟩
   exact⟨rfl,still⟩
  ·rw[if_neg h2]
   cases hp:(plc s N).2
   ·rw[if_neg (by simp)]
    by_cases h3:N.length=64
    ·rw[if_pos h3]
     refine(ref07_put_full q v u N T s t W h.ref hs h1' (by omega) h3 hp).mono ?_
     rintro e w' ⟨rfl,rfl⟩
     exact⟨rfl,still⟩
    ·rw[if_neg h3]
     have hi:=plc_le s N
     have hsm:=h.small
     have hlen:(N.take (plc s N).1++[s]++N.drop (plc s N).1).length≤64:=by simp only[List.length_append,List.length_take,List.length_drop,List.length_cons,List.length_nil];omega
     have hpl:plc s N=((plc s N).1,false):=by rw[← hp]
     generalize (plc s N).1=i at *
     rcases own_cases h.ref.names with ⟨rfl,h0⟩ | ⟨g,c,rfl,hc⟩
     ·refine(ref07_put_nil q i u N T s t W h.ref hi h0 hs h1' (by omega) h3 (by omega) hpl).mono ?_
      rintro e w' ⟨rfl,v',u',r1,r2,r3,hk⟩
      obtain⟨x1,x2⟩:=h.docu (hk.mono fun k hk=>⟨hk.1,hk.2.1⟩) r1 (fun b hb=>Or.inr (r2 b hb)) (fun b hb=>Or.inr (r3 b hb)) hlen
      exact⟨rfl,_,_,x1,x2⟩
     ·refine(ref07_put_some q i g c u N T s t W h.ref hi hc hs h1' (by omega) h3 (by omega) hpl).mono ?_
      rintro e w' ⟨rfl,v',u',r1,r2,r3,hk⟩
      obtain⟨x1,x2⟩:=h.docu (hk.mono fun k hk=>⟨hk.1,hk.2.1⟩) r1 (fun b hb=>Or.inr (r2 b hb)) (fun b hb=>Or.inr (r3 b hb)) hlen
      exact⟨rfl,_,_,x1,x2⟩
   ·rw[if_pos rfl]
    have hi:=(plc_there s N hN hp).1
    have hpl:plc s N=((plc s N).1,true):=by rw[← hp]
    generalize (plc s N).1=i at *
    refine(ref07_put_old q i v u N T s t W h.ref hi hs h1' (by omega) hpl).mono ?_
    rintro e w' ⟨rfl,r1,hk⟩
    obtain⟨x1,x2⟩:=h.docu (hk.mono fun k hk=>⟨hk.1,hk.2.2.2⟩) r1 (fun b hb=>Or.inl hb) (fun b hb=>Or.inl hb) h.small
    exact⟨rfl,_,_,x1,x2⟩
def gotN (N T:List ByteArray) (s:ByteArray):ByteArray×Bool:=(if (plc s N).2=true then T.getD (plc s N).1 ⟨#[]⟩ else ⟨#[]⟩,(plc s N).2)
theorem gotN_of {D:DataW Unit} {N T:List ByteArray} (h:Rel D N T) (s t:ByteArray) (hs:nameOk s=true) (ht:D.atKey (fkey s) (text ⟨#[]⟩)=text t):(t,has D (fkey s))=gotN N T s:=by
 unfold gotN
 cases hp:(plc s N).2
 ·have hD:=h.del_none s hs hp
  rw[hD,if_neg (by simp)]
  rw[atKey_of_not_has hD] at ht
  unfold text at ht
  injection ht with ht
  injection ht with ht
  rw[show t=⟨#[]⟩ from ByteArray.ext (Array.toList_inj.1 (by simpa using ht.symm))]
 ·obtain⟨i1,i2⟩:=plc_there s N h.sorted hp
  have hm:=(plc_mem s N h.sorted).1 hp
  have hD:=(h.has_ s hs).2 hm
  have iT:(plc s N).1<T.length:=by rw[← h.len];exact i1
  have e1:N[(plc s N).1]?=some s:=by
   rw[List.getD_eq_getElem?_getD,List.getElem?_eq_getElem i1] at i2
   rw[List.getElem?_eq_getElem i1]
   simpa using i2
  have:=h.get (plc s N).1 s (T.getD (plc s N).1 ⟨#[]⟩) e1 (by simp[List.getD,iT])
  rw[this] at ht
  unfold text at ht
  injection ht with ht
  injection ht with ht
  rw[hD,if_pos rfl,show t=T.getD (plc s N).1 ⟨#[]⟩ from ByteArray.ext (Array.toList_inj.1 ht.symm)]
theorem plc_bad {D:DataW Unit} {N T:List ByteArray} (h:Rel D N T) (s:ByteArray) (hs:nameOk s=false):(plc s N).2=false:=by
 cases hp:(plc s N).2
 ·rfl
 ·have:=h.ok s ((plc_mem s N h.sorted).1 hp)
  rw[hs] at this;cases this
theorem both_get1 (h:Both B W p q m n D v u N T) (hr:Rel D N T) (s:ByteArray) (hs:s.size≤9223372036854775807) :
  Calls Tryz.prog 18 #[.pointer (some ⟨p,0,none⟩),.string s] W fun e w'=>e=.returned (.tuple #[.string (gotN N T s).1,.bool (gotN N T s).2])∧Both B w' p q m n D v u N T∧Below B W w'∧KeepX W w':=by
 have hB:B≤W.heap.size:=by have:=h.bp;have:=h.blk.lt;omega
 by_cases h1:nameOk s=false
 ·refine(store_get_bad s _ W hs h1).mono ?_
  rintro e w' ⟨rfl,hb⟩
  have:=plc_bad hr s h1
  unfold gotN
  rw[this]
  exact⟨rfl,h.below hb,hb.mono hB,KeepX.below hb⟩
 ·refine(store_get s p n m D W hs h.blk h.map (by simpa using h1)).mono ?_
  rintro e w' ⟨⟨t,rfl,ht⟩,hb⟩
  rw[← gotN_of hr s t (by simpa using h1) ht]
  exact⟨rfl,h.below hb,hb.mono hB,KeepX.below hb⟩
theorem both_get2 (h:Both B W p q m n D v u N T) (hr:Rel D N T) (s:ByteArray) :
  Calls Tryz.prog 19 #[.pointer (some ⟨q,0,none⟩),.string s] W fun e w'=>e=.returned (.tuple #[.string (gotN N T s).1,.bool (gotN N T s).2])∧W=w':=
 ref07_get q v u N T s W h.ref.blk (srow_of_own h.ref.small h.ref.names) (srow_of_own (by rw[← h.ref.len];exact h.ref.small) h.ref.texts) h.ref.len (fun hp=>(plc_there s N hr.sorted hp).1)
theorem both_names1 (h:Both B W p q m n D v u N T) (hr:Rel D N T) :
  Calls Tryz.prog 17 #[.pointer (some ⟨p,0,none⟩)] W fun e w'=>∃ r,e=.returned r∧SRow w' r N∧Both B w' p q m n D v u N T∧Below W.heap.size W w':=by
 rcases h.map with ⟨rfl,rfl⟩ | ⟨b,rfl,hown⟩
 ·refine(names_nil p W h.blk).mono ?_
  rintro e w' ⟨rfl,hb⟩
  have h0:N=[]:=List.eq_nil_of_length_eq_zero (by rw[← hr.size];rfl)
  subst h0
  exact⟨_,rfl,srow_none rfl rfl,h.below hb,hb⟩
 ·refine(store_names sortsStr p b n D W h.blk hown hr.named (by rw[hr.size];have:=h.small;omega)).mono ?_
  rintro e w' ⟨ss,r,rfl,hm,hl,ho,hb⟩
  rw[names_same hr hm,hl,hr.size,List.map_map] at ho
  have e1:(encStr ∘ fun x=>x.data.toList)=Value.string:=by
   funext x
   show Value.string _=_
   congr 1
  rw[e1] at ho
  exact⟨_,rfl,srow_of_own (by have:=h.small;omega) ho,h.below hb,hb⟩
theorem both_names2 (h:Both B W p q m n D v u N T) :
  Calls Tryz.prog 16 #[.pointer (some ⟨q,0,none⟩)] W fun e w'=>∃ r,e=.returned r∧SRow w' r N∧Both B w' p q m n D v u N T∧Below W.heap.size W w':=by
 refine(ref07_names q u v N W h.ref.blk (srow_of_own h.ref.small h.ref.names) (by have:=h.small;omega)).mono ?_
 rintro e w' ⟨r,rfl,ho,hb⟩
 exact⟨_,rfl,srow_of_own (by have:=h.small;omega) ho,h.below hb,hb⟩
end
end Go.Proofs.YtceflhffilldeaaGreat
