/-
  Joined: ZOpen.
-/
import Derived.Lib.SmallJoins
import Derived.Deep.Slices
import Derived.DataReads
import Derived.Test.YtceflhffilldeaaGreatZLwStores
set_option linter.unusedVariables false
set_option linter.unusedSimpArgs false
set_option maxRecDepth 100000
set_option maxHeartbeats 16000000
namespace Go.Proofs.YtceflhffilldeaaGreat
open Go.Joins Go.ChangeShapes Go.WideShapes Go.RowKit Go.Deep
section
variable {H:Type} {enc:TypeId×Value→H} {P:Program} {w:World} {base:Nat} {spare:Nat→Bool} {held:Bool}
end
end Go.Proofs.YtceflhffilldeaaGreat
namespace Go.Proofs.YtceflhffilldeaaGreat
open Go.RowKit Go.ChangeShapes Go.WideShapes
section
variable {H:Type} {enc:TypeId×Value→H} {P:Program} {w:World} {base:Nat} {spare:Nat→Bool} {held:Bool}
theorem rows_of_cells {t e:TypeId} {k:Nat} {fs:Array Field} {v:Value} {fuel:Nat} {x:DataW H×List MemPlace} (hk:0<k) (ht:P.underlying t=some (.slice e)) (hs:P.underlying e=some (.struct fs)) (hC:P.cellsOf e=k)
  (h:DataW.trod enc P w base spare held fuel t [v]=some x) :
  ∃ A n c,v=.slice A n c∧n≤9223372036854775807∧∀ i,i<n→∃ ad,A=some ad∧ad.block<w.heap.size ∧
   ∀ (j:Nat) (fld:Field),fs[j]?=some fld→fld.offset=j→P.cellsOf fld.type=1→j<k→∃ y m z,w.cell? ((ad.add (i*k)).add j)=some y∧DataW.trod enc P w base spare held m fld.type [y]=some z:=by
 rcases Go.Deep.open_slice ht h with ⟨hcs,-⟩ | ⟨a',len',cap',m,n,D,Pl,hcs,hb,hl,hm,hmm,hx,hel⟩
 ·injection hcs with hcs _
  subst hcs
  exact⟨none,0,0,rfl,by omega,fun i hi=>absurd hi (by omega)⟩
 ·injection hcs with hcs _
  subst hcs
  have hle:len'≤m:=by rw[hmm];split<;>omega
  refine⟨some a',len',cap',rfl,by unfold maxLen at hm;omega,fun i hi=>?_⟩
  obtain⟨cs',hc,htr⟩:=hel i (by omega)
  rw[hC] at hc
  obtain⟨-,hcl,hat⟩:=World.cells?_some hc
  obtain⟨xs,n',_,_,hlen,hxl,hg⟩:=DataW.trod_struct hs htr
  refine⟨a',rfl,?_,fun j fld hfld hoff h1 hj=>?_⟩
  ·have h0:=hat 0 hk
   rw[List.getElem?_eq_getElem (by omega)] at h0
   have:=block_lt_of_cell h0
   rwa [block_add,block_add] at this
  ·have hgj:=hg j fld hfld
   rw[hoff,h1,show (cs'.drop j).take 1=[cs'[j]] by rw[List.drop_eq_getElem_cons (by omega)];rfl] at hgj
   have hjx:j<xs.length:=by rw[hxl];exact(Array.getElem?_eq_some_iff.1 hfld).1
   rw[List.getElem?_eq_getElem hjx] at hgj
   exact⟨cs'[j],n',xs[j],by rw[hat j hj,List.getElem?_eq_getElem],hgj⟩
end
structure Ste where
 kind:Int
 name:ByteArray
 text:ByteArray
 n:Int
def SteRow (w:World) (v:Value) (l:List Ste):Prop:=
 l.length≤9223372036854775807∧∃ A c,v=.slice A l.length c∧∀ k (hk:k<l.length),∃ ad,A=some ad∧ad.block<w.heap.size ∧
  w.cell? ((ad.add (k*4)).add 0)=some (.int .i64 l[k].kind)∧w.cell? ((ad.add (k*4)).add 1)=some (.string l[k].name)∧w.cell? ((ad.add (k*4)).add 2)=some (.string l[k].text)∧w.cell? ((ad.add (k*4)).add 3)=some (.int .i64 l[k].n)
theorem SteRow.below {w w':World} {v:Value} {l:List Ste} (h:SteRow w v l) (hb:Below w.heap.size w w'):SteRow w' v l:=by
 obtain⟨hm,A,c,rfl,hc⟩:=h
 refine⟨hm,A,c,rfl,fun k hk=>?_⟩
 obtain⟨ad,rfl,hl,h0,h1,h2,h3⟩:=hc k hk
 have key:∀ j,w'.cell? ((ad.add (k*4)).add j)=w.cell? ((ad.add (k*4)).add j):=fun j=>hb.cell (p:=(ad.add (k*4)).add j) (by rw[block_add,block_add];exact hl)
 exact⟨ad,rfl,Nat.lt_of_lt_of_le hl hb.size,(key 0).trans h0,(key 1).trans h1,(key 2).trans h2,(key 3).trans h3⟩
section
variable {H:Type} {enc:TypeId×Value→H} {P:Program} {w:World} {base:Nat} {spare:Nat→Bool} {held:Bool}
end
end Go.Proofs.YtceflhffilldeaaGreat
namespace Go.Proofs.YtceflhffilldeaaGreat
open Go.RowKit Go.ChangeShapes Go.WideShapes
section
variable {H:Type} {enc:TypeId×Value→H} {P:Program} {w:World} {base:Nat} {spare:Nat→Bool} {held:Bool}
theorem files_of_trod {r:Reach} {b0:Nat} {t e ts:TypeId} {f0 f1:Field} {v:Value} {d:DataW H} {p:List MemPlace} (ht:P.underlying t=some (.slice e)) (hs:P.underlying e=some (.struct #[f0,f1])) (hC:P.cellsOf e=2)
  (hts:P.underlying ts=some .string) (h0:f0.type=ts∧f0.offset=0) (h1:f1.type=ts∧f1.offset=1) (c2:P.cellsOf ts=1)
  (hv:Value.okWide P w r b0 t v) (h:DataW.Trod enc P w base spare held t v d p):∃ l,FRow w v l∧∀ x∈l,x.1.size≤9223372036854775807∧x.2.size≤9223372036854775807:=by
 obtain⟨a,len,cap,rfl⟩:=okWide_slice ht hv
 obtain⟨fuel,hf⟩:=h
 obtain⟨A,n,c,e1,hn,hel⟩:=rows_of_cells (by decide) ht hs hC hf
 injection e1 with e1 e2 e3
 subst e1 e2 e3
 have key:∀ i,i<len→∃ ad,a=some ad∧ad.block<w.heap.size∧∃ x:BA×BA,(w.cell? ((ad.add (i*2)).add 0)=some (.string x.1)∧w.cell? ((ad.add (i*2)).add 1)=some (.string x.2))∧x.1.size≤9223372036854775807∧x.2.size≤9223372036854775807:=by
  intro i hi
  obtain⟨ad,ea,hl,hx⟩:=hel i hi
  obtain⟨y1,m1,z1,q1,r1⟩:=hx 0 f0 rfl h0.2 (by rw[h0.1];exact c2) (by decide)
  obtain⟨y2,m2,z2,q2,r2⟩:=hx 1 f1 rfl h1.2 (by rw[h1.1];exact c2) (by decide)
  rw[h0.1] at r1
  rw[h1.1] at r2
  obtain⟨x1,e1,-,w1⟩:=DataW.trod_string hts r1
  obtain⟨x2,e2,-,w2⟩:=DataW.trod_string hts r2
  simp at e1 e2
  subst e1 e2
  unfold maxLen at w1 w2
  exact⟨ad,ea,hl,(x1,x2),⟨q1,q2⟩,by dsimp only;omega,by dsimp only;omega⟩
 clear hf hel
 obtain⟨f,hf⟩:∃ f:Nat→BA×BA,∀ i,i<len→∃ ad,a=some ad∧ad.block<w.heap.size∧(w.cell? ((ad.add (i*2)).add 0)=some (.string (f i).1)∧w.cell? ((ad.add (i*2)).add 1)=some (.string (f i).2))∧(f i).1.size≤9223372036854775807∧(f i).2.size≤9223372036854775807:=by
  refine⟨fun i=>if hi:i<len then (Classical.choose (Classical.choose_spec (key i hi)).2.2) else (⟨#[]⟩,⟨#[]⟩),fun i hi=>?_⟩
  have:=Classical.choose_spec (key i hi)
  refine⟨_,this.1,this.2.1,?_⟩
  dsimp only
  rw[dif_pos hi]
  exact Classical.choose_spec (Classical.choose_spec (key i hi)).2.2
 refine⟨(List.range len).map f,⟨by simpa using hn,a,cap,by simp,fun k hk=>?_⟩,fun x hx=>?_⟩
 ·have hk':k<len:=by simpa using hk
  obtain⟨ad,e1,e2,⟨q0,q1⟩,-⟩:=hf k hk'
  refine⟨ad,e1,e2,fun j hj=>?_⟩
  rcases (show j=0∨j=1 by omega) with rfl | rfl
  ·exact⟨_,q0,⟨fun _=>by simp only[List.getElem_map,List.getElem_range],fun h=>absurd h (by decide)⟩⟩
  ·exact⟨_,q1,⟨fun h=>absurd h (by decide),fun _=>by simp only[List.getElem_map,List.getElem_range]⟩⟩
 ·obtain⟨i,hi,rfl⟩:=List.mem_map.1 hx
  exact(hf i (List.mem_range.1 hi)).choose_spec.2.2.2
theorem open_files {r:Reach} {b0:Nat} {v:Value} {d:DataW H} {p:List MemPlace} (hv:Value.okWide Tryz.prog w r b0 22 v) (h:DataW.Trod enc Tryz.prog w base spare held 22 v d p) :
  ∃ l,FRow w v l∧∀ x∈l,x.1.size≤9223372036854775807∧x.2.size≤9223372036854775807:=
 files_of_trod (e:=56) (ts:=9) Tryz.underlying22 Tryz.underlying56 (by kernel_rfl) Tryz.underlying9 ⟨rfl,rfl⟩ ⟨rfl,rfl⟩ (by kernel_rfl) hv h
end
end Go.Proofs.YtceflhffilldeaaGreat
