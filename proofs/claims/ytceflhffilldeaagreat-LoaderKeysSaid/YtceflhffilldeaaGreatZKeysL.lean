/-
  Joined: ZKeysL.
-/
import Derived.Test.YtceflhffilldeaaGreatZOpen
import Derived.ChangeSame
import Derived.Test.YtceflhffilldeaaGreatZWake
set_option linter.unusedVariables false
set_option linter.unusedSimpArgs false
set_option maxRecDepth 100000
set_option maxHeartbeats 16000000
namespace Go.Proofs.YtceflhffilldeaaGreat
open Go.RowKit Go.ChangeShapes Go.WideShapes ObjL
theorem list_choose {α:Type} {p:Nat→α→Prop}:∀ n,(∀ i,i<n→∃ x,p i x)→∃ l:List α,l.length=n∧∀ i (h:i<l.length),p i l[i]
 | 0,_=>⟨[],rfl,fun i h=>absurd h (by simp)⟩
 | n+1,h=>by
  obtain⟨l,h1,h2⟩:=list_choose n (fun i hi=>h i (by omega))
  obtain⟨x,hx⟩:=h n (by omega)
  refine⟨l++[x],by simp[h1],fun i hi=>?_⟩
  by_cases e:i<l.length
  ·rw[List.getElem_append_left e]
   exact h2 i e
  ·have e2:i=n:=by simp at hi;omega
   subst e2
   rw[List.getElem_append_right (by omega)]
   simpa using hx
def Light {H:Type} (P:Program) (t:TypeId) (d:DataW H):Prop:=∀ n∈d.weights P t,n≤reachBytes
section
variable {H:Type} {P:Program}
theorem light_text {t:TypeId} {b:List UInt8} (h:Light P t (DataW.lit (.string b):DataW H)):b.length≤140737488351232:=h b.length (by simp[DataW.weights])
theorem weightsAll_mem {e:TypeId}:∀ (l:List (DataW H)) (d:DataW H) (n:Nat),d∈l→n∈d.weights P e→n∈DataW.weightsAll P e l
 | [],d,n,h,_=>by cases h
 | x::l,d,n,h,hn=>by
  rw[DataW.weightsAll]
  rcases List.mem_cons.1 h with rfl | h
  ·exact List.mem_append_left _ hn
  ·exact List.mem_append_right _ (weightsAll_mem l d n h hn)
theorem light_slice {t e:TypeId} {es sp:List (DataW H)} (ht:P.underlying t=some (.slice e)) (h:Light P t (.slice es sp)):(es.length+sp.length)*P.bytesOf e≤140737488351232∧∀ d∈es,Light P e d:=by
 unfold Light at h
 rw[DataW.weights,ht] at h
 dsimp only at h
 refine⟨h _ (List.mem_cons_self),fun d hd n hn=>h n ?_⟩
 exact List.mem_cons_of_mem _ (List.mem_append_left _ (weightsAll_mem es d n hd hn))
theorem weightsEach_mem:∀ (ts:List TypeId) (ds:List (DataW H)) (i:Nat) (t:TypeId) (d:DataW H) (n:Nat),ts[i]?=some t→ds[i]?=some d→n∈d.weights P t→n∈DataW.weightsEach P ts ds
 | [],_,i,t,d,n,h,_,_=>by simp at h
 | _::_,[],i,t,d,n,_,h,_=>by simp at h
 | t0::ts,d0::ds,0,t,d,n,h,h2,hn=>by
  simp at h h2
  subst h h2
  rw[DataW.weightsEach]
  exact List.mem_append_left _ hn
 | t0::ts,d0::ds,i+1,t,d,n,h,h2,hn=>by
  rw[DataW.weightsEach]
  exact List.mem_append_right _ (weightsEach_mem ts ds i t d n (by simpa using h) (by simpa using h2) hn)
theorem light_part {t:TypeId} {fs:Array Field} {ps:List (DataW H)} (ht:P.underlying t=some (.struct fs)) (h:Light P t (.agg ps)) {i:Nat} {f:Field} {d:DataW H} (hf:fs[i]?=some f) (hd:ps[i]?=some d):Light P f.type d:=by
 unfold Light at h
 rw[DataW.weights,ht] at h
 dsimp only at h
 exact fun n hn=>h n (weightsEach_mem _ _ i f.type d n (by rw[List.getElem?_map,Array.getElem?_toList,hf];rfl) hd hn)
theorem light_arg {ts:List TypeId} {ds:List (DataW H)} (h:(DataW.weightsEach P ts ds).all (·≤reachBytes)=true) {i:Nat} {t:TypeId} {d:DataW H} (ht:ts[i]?=some t) (hd:ds[i]?=some d):Light P t d:=fun n hn=>by
 have:=List.all_eq_true.1 h n (weightsEach_mem ts ds i t d n ht hd hn)
 simpa using this
end
section
variable {H:Type} {enc:TypeId×Value→H} {P:Program} {w:World} {base:Nat} {spare:Nat→Bool} {held:Bool}
theorem row2_of_cells {α:Type} {is:World→α→Nat→Value→Prop} {fine:α→Prop} {t e:TypeId} {f0 f1:Field} {v:Value} {fuel:Nat} {x:DataW H×List MemPlace} (ht:P.underlying t=some (.slice e)) (hs:P.underlying e=some (.struct #[f0,f1])) (hC:P.cellsOf e=2)
  (o0:f0.offset=0) (o1:f1.offset=1) (c0:P.cellsOf f0.type=1) (c1:P.cellsOf f1.type=1)
  (elt:∀ y0 y1 m z0 z1,DataW.trod enc P w base spare held m f0.type [y0]=some z0→DataW.trod enc P w base spare held m f1.type [y1]=some z1→Light P f0.type z0.1→Light P f1.type z1.1→∃ a,fine a∧is w a 0 y0∧is w a 1 y1)
  (h:DataW.trod enc P w base spare held fuel t [v]=some x) (hx:Light P t x.1):∃ l,RowOf 2 is w v l∧(∀ a∈l,fine a)∧l.length*P.bytesOf e≤140737488351232:=by
 rcases Go.Deep.open_slice ht h with ⟨hcs,-⟩ | ⟨a',len',cap',m,n,D,Pl,hcs,hb,hl,hm,hmm,hxx,hel⟩
 ·injection hcs with hcs _
  subst hcs
  exact⟨[],RowOf.nil_,by simp,by simp⟩
 ·injection hcs with hcs _
  subst hcs
  subst hxx
  have hle:len'≤m:=by rw[hmm];split<;>omega
  have hL:=light_slice ht hx
  simp only[List.length_map,List.length_range] at hL
  obtain⟨l,hll,hp⟩:=list_choose (p:=fun i a=>fine a∧∃ ad,some a'=some ad∧ad.block<w.heap.size∧∀ j,j<2→∃ y,w.cell? ((ad.add (i*2)).add j)=some y∧is w a j y) len' (fun i hi=>by
   obtain⟨cs',hc,htr⟩:=hel i (by omega)
   rw[hC] at hc
   obtain⟨-,hcl,hat⟩:=World.cells?_some hc
   obtain⟨z0,z1,n',hz,-,t0,t1⟩:=trod_struct2 hs htr
   rw[o0,c0] at t0
   rw[o1,c1] at t1
   match cs',hcl,hat,t0,t1 with
   | [y0,y1],_,hat,t0,t1=>
    simp at t0 t1
    have hD:Light P e (D i):=hL.2 _ (List.mem_map.2 ⟨i,List.mem_range.2 hi,rfl⟩)
    have hz1:D i=.agg [z0.1,z1.1]:=(Prod.mk.inj hz).1
    rw[hz1] at hD
    obtain⟨a,hf,i0,i1⟩:=elt y0 y1 n' z0 z1 t0 t1 (light_part hs hD (i:=0) rfl rfl) (light_part hs hD (i:=1) rfl rfl)
    refine⟨a,hf,a',rfl,?_,fun j hj=>?_⟩
    ·have h0:=hat 0 (by decide)
     have:=block_lt_of_cell (h0.trans (show [y0,y1][0]?=some y0 from rfl))
     rwa [block_add,block_add] at this
    ·have:j=0∨j=1:=by omega
     rcases this with rfl | rfl
     ·exact⟨y0,hat 0 (by decide),i0⟩
     ·exact⟨y1,hat 1 (by decide),i1⟩)
  subst hll
  refine⟨l,⟨by unfold maxLen at hm;omega,some a',cap',rfl,fun i hi=>(hp i hi).2⟩,fun a ha=>?_,?_⟩
  ·obtain⟨i,hi,rfl⟩:=List.getElem_of_mem ha
   exact(hp i hi).1
  ·exact Nat.le_trans (Nat.mul_le_mul_right _ (Nat.le_add_right _ _)) hL.1
theorem row1_of_cells {t e:TypeId} {k:IntKind} {v:Value} {fuel:Nat} {x:DataW H×List MemPlace} (ht:P.underlying t=some (.slice e)) (he:P.underlying e=some (.int k)) (hc:P.cellsOf e=1)
  (h:DataW.trod enc P w base spare held fuel t [v]=some x) (hx:Light P t x.1):∃ zs,Row k w v zs∧(∀ n∈zs,(Lit.int k n).wf=true)∧zs.length*P.bytesOf e≤140737488351232:=by
 obtain⟨zs,hr,hw⟩:=row_of_cells ht he hc h
 refine⟨zs,hr,hw,?_⟩
 obtain⟨-,A,c,rfl,-⟩:=hr
 rcases Go.Deep.open_slice ht h with ⟨hcs,-⟩ | ⟨a',len',cap',m,n,D,Pl,hcs,hb,hl,hm,hmm,hxx,hel⟩
 ·injection hcs with hcs _
  injection hcs with _ e2 _
  rw[e2];simp
 ·injection hcs with hcs _
  injection hcs with _ e2 _
  rw[e2]
  subst hxx
  have hL:=(light_slice ht hx).1
  simp only[List.length_map,List.length_range] at hL
  exact Nat.le_trans (Nat.mul_le_mul_right _ (Nat.le_add_right _ _)) hL
end
theorem wf_i64 {x:Int} (h:(Lit.int .i64 x).wf=true):I64 x:=bounds_i64 h
theorem wf_u32 {x:Int} (h:(Lit.int .u32 x).wf=true):0≤x∧x≤4294967295:=by have:=bounds_u32 h;omega
structure ObSized (o:Ob):Prop where
 name:o.name.length≤140737488351232
 uses:o.uses.length*24≤140737488351232
 use:∀ u∈o.uses,u.1.length≤140737488351232
 descs:o.descs.length*32≤140737488351232
 desc:∀ d∈o.descs,d.2.length*16≤140737488351232
 strings:o.strings.length≤140737488351232
 code:o.code.length*4≤140737488351232
 entries:o.entries.length*8≤140737488351232
section
variable {H:Type} {enc:TypeId×Value→H} {w:World} {base:Nat} {spare:Nat→Bool} {held:Bool}
theorem one_int {t:TypeId} {k:IntKind} {m:Nat} {y:Value} {z:DataW H×List MemPlace} (ht:Tryz.prog.underlying t=some (.int k)) (h:DataW.trod enc Tryz.prog w base spare held m t [y]=some z):∃ x,y=.int k x∧(Lit.int k x).wf=true:=by
 obtain⟨x,e,-,hw⟩:=DataW.trod_int ht h
 simp at e
 exact⟨x,e,hw⟩
theorem one_text {t:TypeId} {m:Nat} {y:Value} {z:DataW H×List MemPlace} (ht:Tryz.prog.underlying t=some .string) (h:DataW.trod enc Tryz.prog w base spare held m t [y]=some z) (hz:Light Tryz.prog t z.1):∃ x:List UInt8,y=.string (txt x)∧x.length≤140737488351232:=by
 obtain⟨x,e,rfl,hw⟩:=DataW.trod_string ht h
 simp at e
 exact⟨x.data.toList,by rw[txt_of];exact e,light_text hz⟩
theorem by_ext:Tryz.prog.bytesOf 93=16:=by kernel_rfl
theorem by_desc:Tryz.prog.bytesOf 84=32:=by kernel_rfl
theorem by_used:Tryz.prog.bytesOf 54=24:=by kernel_rfl
theorem by_u32:Tryz.prog.bytesOf 37=4:=by kernel_rfl
theorem by_int:Tryz.prog.bytesOf 3=8:=by kernel_rfl
theorem open_exts {m:Nat} {v:Value} {z:DataW H×List MemPlace} (h:DataW.trod enc Tryz.prog w base spare held m 82 [v]=some z) (hz:Light Tryz.prog 82 z.1):∃ l,ERow w v l∧(∀ e∈l,I64 e.1∧I64 e.2)∧l.length*16≤140737488351232:=by
 rw[← by_ext]
 exact row2_of_cells (is:=extIs) (fine:=fun e=>I64 e.1∧I64 e.2) Tryz.underlying82 Tryz.underlying93 (by kernel_rfl) rfl rfl (by kernel_rfl) (by kernel_rfl) (fun y0 y1 m z0 z1 r0 r1 l0 l1=>by
  obtain⟨a,rfl,ha⟩:=one_int Tryz.underlying3 r0
  obtain⟨b,rfl,hb⟩:=one_int Tryz.underlying3 r1
  exact⟨(a,b),⟨wf_i64 ha,wf_i64 hb⟩,⟨fun _=>rfl,fun h=>absurd h (by decide)⟩,⟨fun h=>absurd h (by decide),fun _=>rfl⟩⟩) h hz
theorem open_descs {m:Nat} {v:Value} {z:DataW H×List MemPlace} (h:DataW.trod enc Tryz.prog w base spare held m 45 [v]=some z) (hz:Light Tryz.prog 45 z.1):∃ l,DRow w v l∧(∀ d∈l,I64 d.1∧(∀ e∈d.2,I64 e.1∧I64 e.2)∧d.2.length*16≤140737488351232)∧l.length*32≤140737488351232:=by
 rw[← by_desc]
 exact row2_of_cells (is:=descIs) (fine:=fun d=>I64 d.1∧(∀ e∈d.2,I64 e.1∧I64 e.2)∧d.2.length*16≤140737488351232) Tryz.underlying45 Tryz.underlying84 (by kernel_rfl) rfl rfl (by kernel_rfl) (by kernel_rfl) (fun y0 y1 m z0 z1 r0 r1 l0 l1=>by
  obtain⟨a,rfl,ha⟩:=one_int Tryz.underlying3 r0
  obtain⟨b,hb,hb2,hb3⟩:=open_exts r1 l1
  exact⟨(a,b),⟨wf_i64 ha,hb2,hb3⟩,⟨fun _=>rfl,fun h=>absurd h (by decide)⟩,⟨fun h=>absurd h (by decide),fun _=>hb⟩⟩) h hz
theorem open_uses {m:Nat} {v:Value} {z:DataW H×List MemPlace} (h:DataW.trod enc Tryz.prog w base spare held m 44 [v]=some z) (hz:Light Tryz.prog 44 z.1):∃ l,URow w v l∧(∀ u∈l,u.1.length≤140737488351232∧0≤u.2∧u.2≤4294967295)∧l.length*24≤140737488351232:=by
 rw[← by_used]
 exact row2_of_cells (is:=useIs) (fine:=fun u=>u.1.length≤140737488351232∧0≤u.2∧u.2≤4294967295) Tryz.underlying44 Tryz.underlying54 (by kernel_rfl) rfl rfl (by kernel_rfl) (by kernel_rfl) (fun y0 y1 m z0 z1 r0 r1 l0 l1=>by
  obtain⟨a,rfl,ha⟩:=one_text Tryz.underlying9 r0 l0
  obtain⟨b,rfl,hb⟩:=one_int Tryz.underlying37 r1
  exact⟨(a,b),⟨ha,wf_u32 hb⟩,⟨fun _=>rfl,fun h=>absurd h (by decide)⟩,⟨fun h=>absurd h (by decide),fun _=>rfl⟩⟩) h hz
theorem open_object {r:Reach} {b0:Nat} {v:Value} {d:DataW H} {p:List MemPlace} (hv:Value.okWide Tryz.prog w r b0 48 v) (h:DataW.Trod enc Tryz.prog w base spare held 48 v d p) (hl:Light Tryz.prog 48 d) :
  ∃ o vU vD vC vE,v=.agg (obCells o vU vD vC vE)∧ObParts w o vU vD vC vE∧ObFine o∧ObSized o:=by
 have hs:=Tryz.underlying48
 obtain⟨cs,rfl,hsz⟩:=okWide_struct hs hv
 obtain⟨l⟩:=cs
 obtain⟨fuel,hf⟩:=h
 obtain⟨xs,n,_,hx,_,hlen,hg⟩:=DataW.trod_struct hs hf
 have hll:l.length=10:=by
  have h1:l.length=Tryz.prog.cellsOf 48:=by simpa using hsz
  exact h1.trans (show Tryz.prog.cellsOf 48=10 by kernel_rfl)
 have hx10:xs.length=10:=hlen
 obtain⟨c0,c1,c2,c3,c4,c5,c6,c7,c8,c9,rfl⟩:=list10 hll
 match xs,hx10 with
 | [x0,x1,x2,x3,x4,x5,x6,x7,x8,x9],_=>
  have hd:d=.agg [x0.1,x1.1,x2.1,x3.1,x4.1,x5.1,x6.1,x7.1,x8.1,x9.1]:=(Prod.mk.inj hx).1
  subst hd
  have g0:DataW.trod enc Tryz.prog w base spare held n 9 [c0]=some x0:=hg 0 _ rfl
  have g1:DataW.trod enc Tryz.prog w base spare held n 37 [c1]=some x1:=hg 1 _ rfl
  have g2:DataW.trod enc Tryz.prog w base spare held n 44 [c2]=some x2:=hg 2 _ rfl
  have g3:DataW.trod enc Tryz.prog w base spare held n 45 [c3]=some x3:=hg 3 _ rfl
  have g4:DataW.trod enc Tryz.prog w base spare held n 3 [c4]=some x4:=hg 4 _ rfl
  have g5:DataW.trod enc Tryz.prog w base spare held n 9 [c5]=some x5:=hg 5 _ rfl
  have g6:DataW.trod enc Tryz.prog w base spare held n 30 [c6]=some x6:=hg 6 _ rfl
  have g7:DataW.trod enc Tryz.prog w base spare held n 46 [c7]=some x7:=hg 7 _ rfl
  have g8:DataW.trod enc Tryz.prog w base spare held n 3 [c8]=some x8:=hg 8 _ rfl
  have g9:DataW.trod enc Tryz.prog w base spare held n 3 [c9]=some x9:=hg 9 _ rfl
  have l0:Light Tryz.prog 9 x0.1:=light_part hs hl (i:=0) rfl rfl
  have l2:Light Tryz.prog 44 x2.1:=light_part hs hl (i:=2) rfl rfl
  have l3:Light Tryz.prog 45 x3.1:=light_part hs hl (i:=3) rfl rfl
  have l5:Light Tryz.prog 9 x5.1:=light_part hs hl (i:=5) rfl rfl
  have l6:Light Tryz.prog 30 x6.1:=light_part hs hl (i:=6) rfl rfl
  have l7:Light Tryz.prog 46 x7.1:=light_part hs hl (i:=7) rfl rfl
  clear hg hl
  obtain⟨nm,rfl,b0⟩:=one_text Tryz.underlying9 g0 l0
  obtain⟨key,rfl,b1⟩:=one_int Tryz.underlying37 g1
  obtain⟨us,hU,b2,d2⟩:=open_uses g2 l2
  obtain⟨ds,hD,b3,d3⟩:=open_descs g3 l3
  obtain⟨da,rfl,b4⟩:=one_int Tryz.underlying3 g4
  obtain⟨st,rfl,b5⟩:=one_text Tryz.underlying9 g5 l5
  obtain⟨co,hC,b6,d6⟩:=row1_of_cells Tryz.underlying30 Tryz.underlying37 (by kernel_rfl) g6 l6
  obtain⟨en,hE,b7,d7⟩:=row1_of_cells Tryz.underlying46 Tryz.underlying3 (by kernel_rfl) g7 l7
  obtain⟨ca,rfl,b8⟩:=one_int Tryz.underlying3 g8
  obtain⟨pl,rfl,b9⟩:=one_int Tryz.underlying3 g9
  rw[by_u32] at d6
  rw[by_int] at d7
  refine⟨⟨nm,key,us,ds,da,st,co,en,ca,pl⟩,c2,c3,c6,c7,rfl,⟨hU,hD,hC,hE⟩,⟨by dsimp only;omega,wf_u32 b1,fun u hu=>?_,fun d hd=>⟨(b3 d hd).1,(b3 d hd).2.1⟩,wf_i64 b4,by dsimp only;omega,fun x hx=>wf_u32 (b6 x hx),fun x hx=>wf_i64 (b7 x hx),wf_i64 b8,wf_i64 b9⟩,⟨b0,d2,fun u hu=>(b2 u hu).1,d3,fun d hd=>(b3 d hd).2.2,b5,d6,d7⟩⟩
  have:=b2 u hu
  exact⟨by omega,this.2⟩
end
end Go.Proofs.YtceflhffilldeaaGreat
namespace Go.Proofs.YtceflhffilldeaaGreat
open Go.RowKit ObjL
theorem rowOf_at {α:Type} {n:Nat} {is:World→α→Nat→Value→Prop} {w:World} {A:Option Addr} {c:Nat} {l:List α} (h:RowOf n is w (.slice A l.length c) l):∀ i (hi:i<l.length),∃ ad,A=some ad∧ad.block<w.heap.size∧∀ j,j<n→∃ x,w.cell? ((ad.add (i*n)).add j)=some x∧is w l[i] j x:=by
 obtain⟨-,A1,c1,e,hc⟩:=h
 injection e with e1 e2 e3
 subst e1
 exact hc
def CopyOk (o:Ob):Prop:=o.uses.length≤1000000∧o.code.length≤1000000∧o.entries.length≤1000000∧o.descs.length≤1000000∧∀ d∈o.descs,d.2.length≤1000000
def LargeEnd (o:Ob) (w:World) (e:Ending) (w':World):Prop:=∃ L,e=.returned (.bool L)∧(L=false→CopyOk o)∧Below w.heap.size w w'
theorem LargeEnd.mk {o:Ob} {w w':World} {v:Value} (L:Bool) (h:v=.bool L) (h2:L=false→CopyOk o) (h3:Below w.heap.size w w'):LargeEnd o w (.returned v) w':=⟨L,by rw[h],h2,h3⟩
theorem law23_large (o:Ob) (vU vD vC vE:Value) (w:World) (hp:ObParts w o vU vD vC vE) (hzz:ObSized o) :
  Calls Tryz.prog 11 #[.agg (obCells o vU vD vC vE)] w (LargeEnd o w):=by
 have hp0:=zh hp
 obtain⟨⟨-,AU,cU,rfl,-⟩,⟨-,AD,cD,rfl,-⟩,⟨-,AC,cC,rfl,-⟩,⟨-,AE,cE,rfl,-⟩⟩:=hp
 have B2:=(Below.refl w.heap.size w).alloc (Nat.le_refl _) (.cells (obCells o (.slice AU o.uses.length cU) (.slice AD o.descs.length cD) (.slice AC o.code.length cC) (.slice AE o.entries.length cE)) 48)
 have L1:=zh (Blk.new w 48 (obCells o (.slice AU o.uses.length cU) (.slice AD o.descs.length cD) (.slice AC o.code.length cC) (.slice AE o.entries.length cE)))
 have P1:=zh (hp0.out.below B2)
 have B2:=zh B2
 have hz:=zh hzz
 clear hp0
 go_enter Tryz.func11,Tryz.ntmps11
 go_upto_region 1 with fail
 generalize hW:w.alloc (.cells (obCells o (.slice AU o.uses.length cU) (.slice AD o.descs.length cD) (.slice AC o.code.length cC) (.slice AE o.entries.length cE)) 48)=W at *
 clear hW
 go_upto_block 0 with fail
 go_cut [3,4] from 6 to 26 (fun n i wx=>∃ (x:Nat),n=.int .i64 x∧Hid ((x≤60000→o.descs.length≤x∧∀ j,j<o.descs.length→(o.descs.getD j (0,[])).2.length≤x)∧x≤140737488420000∧Below W.heap.size W wx))
 case first=>
  go_wp2_with fail
  go_loopw [3,4] (fun n i wr=>∃ (k x:Nat),i=.int .i64 k∧n=.int .i64 x∧k≤o.descs.length∧Hid (k≤x∧(∀ j,j<k→(o.descs.getD j (0,[])).2.length≤x)∧x≤140737488420000∧Below W.heap.size W wr)) (fun _ i _=>o.descs.length-(intOf i).toNat)
  case atStart=>exact⟨0,0,rfl,rfl,by omega,zh ⟨by omega,fun j hj=>by omega,by omega,Below.refl _ _⟩⟩
  case round=>
   obtain⟨k,x,rfl,rfl,hk,hI⟩:=hrel
   have hb3:=hI.out.2.2.2
   have c3:wr.cell? ⟨w.heap.size,3,none⟩=some (.slice AD o.descs.length cD):=(L1.out.below hb3 L1.out.lt).cell 3
   have hul:o.descs.length≤140737488351232:=by have:=hz.out.descs;omega
   have hx60:x≤140737488420000:=by have:=hI.out.2.2.1;omega
   clear hb3
   by_cases hlt:(k:Int)<(o.descs.length:Int)
   ·by_cases hle:(x:Int)≤60000
    ·have hkl:k<o.descs.length:=by omega
     obtain⟨ad,hAd,had,x1⟩:=rowOf_at P1.out.descs k hkl
     subst hAd
     obtain⟨y1,x4,p1⟩:=x1 1 (by decide)
     obtain⟨-,A9,c9,e9,-⟩:=p1.2 rfl
     subst e9
     have hel:o.descs[k].2.length≤140737488351232:=by have:=hz.out.desc _ (List.getElem_mem hkl);omega
     have X4:wr.cell? ⟨(ad.add (k*2)).block,(ad.add (k*2)).off+1,none⟩=some (.slice A9 o.descs[k].2.length c9):=(hI.out.2.2.2.cell (p:=⟨(ad.add (k*2)).block,(ad.add (k*2)).off+1,none⟩) (by show (ad.add (k*2)).block<_;rw[block_add];exact had)).trans x4
     have hgd:o.descs.getD k (0,[])=o.descs[k]:=by simp[List.getD,hkl]
     clear x1 x4 p1
     have hgd:=zh hgd
     generalize o.descs[k]=dk at *
     generalize hln:dk.2.length=ln at *
     have hlnh:=zh hln
     clear hln
     have w1:IntKind.i64.wrap (1+(ln:Int))=1+(ln:Int):=by rw[IntKind.wrap_i64];omega
     have w2:IntKind.i64.wrap ((x:Int)+(1+(ln:Int)))=(x:Int)+(1+(ln:Int)):=by rw[IntKind.wrap_i64];omega
     go_wp2_with fail
     refine⟨⟨k+1,x+(1+ln),by go_num,by push_cast;rfl,by omega,zh ⟨by have:=hI.out.1;omega,fun j hj'=>?_,by omega,hI.out.2.2.2⟩⟩,by simp[intOf];omega⟩
     rcases Nat.lt_or_ge j k with h | h
     ·exact Nat.le_trans (hI.out.2.1 j h) (by omega)
     ·obtain rfl:j=k:=by omega
      rw[hgd.out,hlnh.out];omega
    ·go_wp2_with fail
     go_meet
     exact⟨x,rfl,zh ⟨fun h=>by omega,by omega,hI.out.2.2.2⟩⟩
   ·go_wp2_with fail
    go_meet
    have hkn:k=o.descs.length:=by omega
    exact⟨x,rfl,zh ⟨fun h=>⟨by rw[← hkn];exact hI.out.1,by rw[← hkn];exact hI.out.2.1⟩,by omega,hI.out.2.2.2⟩⟩
 case rest=>
  obtain⟨x0,rfl,hC⟩:=hcut
  go_wp2_with fail
  go_loopw [3,5] (fun n i wr=>∃ (k x:Nat),i=.int .i64 k∧n=.int .i64 x∧k≤o.uses.length∧Hid (k+x0≤x∧(∀ j,j<k→(o.uses.getD j ([],0)).1.length≤x)∧x≤140737488420000∧Below W.heap.size W wr)) (fun _ i _=>o.uses.length-(intOf i).toNat)
  case atStart=>exact⟨0,x0,rfl,rfl,by omega,zh ⟨by omega,fun j hj=>by omega,hC.out.2.1,hC.out.2.2⟩⟩
  case round=>
   have hOKg:∀ (k x:Nat),k≤o.uses.length→(k=o.uses.length∨60000<x)→(k+x0≤x∧(∀ j,j<k→(o.uses.getD j ([],0)).1.length≤x)∧x≤140737488420000∧Below W.heap.size W wr)→(x:Int)≤60000→(o.code.length:Int)≤9000→(o.entries.length:Int)≤1000→CopyOk o:=fun k x h1 h2 h3 h4 h5 h6=>by
    have hk:k=o.uses.length:=by omega
    have hx0:x0≤60000:=by omega
    obtain⟨d1,d2⟩:=hC.out.1 hx0
    refine⟨by omega,by omega,by omega,by omega,fun d hd=>?_⟩
    obtain⟨i,hi,rfl⟩:=List.getElem_of_mem hd
    have:=d2 i hi
    simp only[List.getD,List.getElem?_eq_getElem hi,Option.getD_some] at this
    omega
   have hOKg:=zh hOKg
   obtain⟨k,x,rfl,rfl,hk,hI⟩:=hrel
   have hb3:=hI.out.2.2.2
   have c3:wr.cell? ⟨w.heap.size,2,none⟩=some (.slice AU o.uses.length cU):=(L1.out.below hb3 L1.out.lt).cell 2
   have hul:o.uses.length≤140737488351232:=by have:=hz.out.uses;omega
   have hx60:x≤140737488420000:=by have:=hI.out.2.2.1;omega
   clear hb3
   by_cases hlt:(k:Int)<(o.uses.length:Int)
   ·by_cases hle:(x:Int)≤60000
    ·have hkl:k<o.uses.length:=by omega
     obtain⟨ad,hAd,had,x1⟩:=rowOf_at P1.out.uses k hkl
     subst hAd
     obtain⟨y1,x4,p1⟩:=x1 0 (by decide)
     have e9:=p1.1 rfl
     subst e9
     have hel:o.uses[k].1.length≤140737488351232:=hz.out.use _ (List.getElem_mem hkl)
     have X4:wr.cell? (ad.add (k*2))=some (.string (txt o.uses[k].1)):=(hI.out.2.2.2.cell (p:=ad.add (k*2)) (by rw[block_add];exact had)).trans x4
     have hss:=txt_size o.uses[k].1
     have hgd:o.uses.getD k ([],0)=o.uses[k]:=by simp[List.getD,hkl]
     clear x1 x4 p1
     have hgd:=zh hgd
     generalize o.uses[k]=dk at *
     generalize hln:dk.1.length=ln at *
     have hlnh:=zh hln
     clear hln
     have w1:IntKind.i64.wrap (1+(ln:Int))=1+(ln:Int):=by rw[IntKind.wrap_i64];omega
     have w2:IntKind.i64.wrap ((x:Int)+(1+(ln:Int)))=(x:Int)+(1+(ln:Int)):=by rw[IntKind.wrap_i64];omega
     go_wp2_with fail
     refine⟨⟨k+1,x+(1+ln),by go_num,by push_cast;rfl,by omega,zh ⟨by have:=hI.out.1;omega,fun j hj'=>?_,by omega,hI.out.2.2.2⟩⟩,by simp[intOf];omega⟩
     rcases Nat.lt_or_ge j k with h | h
     ·exact Nat.le_trans (hI.out.2.1 j h) (by omega)
     ·obtain rfl:j=k:=by omega
      rw[hgd.out,hlnh.out];omega
    ·go_upto_region 10 with fail
     have bE:Below w.heap.size w wr:=B2.out.trans (hI.out.2.2.2.mono B2.out.size)
     clear hI c3
     go_wp2_with fail
     go_ret
     exact LargeEnd.mk true rfl (by simp) bE
   ·go_upto_region 10 with fail
    have hbL:=hI.out.2.2.2
    have hOKf:=hOKg.out k x hk (by omega) hI.out
    clear hI c3
    have bE:Below w.heap.size w wr:=B2.out.trans (hbL.mono B2.out.size)
    have a6:wr.cell? ⟨w.heap.size,6,none⟩=some (.slice AC o.code.length cC):=(L1.out.below hbL L1.out.lt).cell 6
    have a5:wr.cell? ⟨w.heap.size,5,none⟩=some (.string (txt o.strings)):=(L1.out.below hbL L1.out.lt).cell 5
    have a7:wr.cell? ⟨w.heap.size,7,none⟩=some (.slice AE o.entries.length cE):=(L1.out.below hbL L1.out.lt).cell 7
    have a0:wr.cell? ⟨w.heap.size,0,none⟩=some (.string (txt o.name)):=(L1.out.below hbL L1.out.lt).cell 0
    have s5:=txt_size o.strings
    have s0:=txt_size o.name
    clear hbL
    by_cases g1:(60000:Int)<(x:Int)
    ·go_wp2_with fail
     go_ret
     exact LargeEnd.mk true rfl (by simp) bE
    ·by_cases g2:(3000:Int)<(o.code.length:Int)
     ·by_cases g3:(o.code.length:Int)≤8192
      ·go_wp2_with fail
       go_ret
       exact LargeEnd.mk true rfl (by simp) bE
      ·by_cases g4:(9000:Int)<(o.code.length:Int)
       ·go_wp2_with fail
        go_ret
        exact LargeEnd.mk true rfl (by simp) bE
       ·by_cases h3:(60000:Int)<(o.strings.length:Int)
        ·go_wp2_with fail
         go_ret
         exact LargeEnd.mk true rfl (by simp) bE
        ·by_cases h2:(1000:Int)<(o.entries.length:Int)
         ·go_wp2_with fail
          go_ret
          exact LargeEnd.mk true rfl (by simp) bE
         ·by_cases h1:(1000:Int)<(o.name.length:Int)
          ·go_wp2_with fail
           go_ret
           exact LargeEnd.mk true rfl (by simp) bE
          ·have hOK:=zh (hOKf (by omega) (by omega) (by omega))
           go_wp2_with fail
           go_ret
           exact LargeEnd.mk false rfl (fun _=>hOK.out) bE
     ·have g4:¬ (9000:Int)<(o.code.length:Int):=by omega
      by_cases h3:(60000:Int)<(o.strings.length:Int)
      ·go_wp2_with fail
       go_ret
       exact LargeEnd.mk true rfl (by simp) bE
      ·by_cases h2:(1000:Int)<(o.entries.length:Int)
       ·go_wp2_with fail
        go_ret
        exact LargeEnd.mk true rfl (by simp) bE
       ·by_cases h1:(1000:Int)<(o.name.length:Int)
        ·go_wp2_with fail
         go_ret
         exact LargeEnd.mk true rfl (by simp) bE
        ·have hOK:=zh (hOKf (by omega) (by omega) (by omega))
         go_wp2_with fail
         go_ret
         exact LargeEnd.mk false rfl (fun _=>hOK.out) bE
end Go.Proofs.YtceflhffilldeaaGreat
namespace Go.Proofs.YtceflhffilldeaaGreat
open Go.RowKit Go.Maps Go.WideMaps Plays ObjL Ldr
theorem got_is {D:DataW Unit} {N T:List BA} (h:Rel D N T) (s:BA) (hs:nameOk s=true):D.atKey (fkey s) (text ⟨#[]⟩)=text (gotN N T s).1∧has D (fkey s)=(gotN N T s).2:=by
 cases hp:(plc s N).2
 ·have hD:=h.del_none s hs hp
  have e:gotN N T s=(⟨#[]⟩,false):=by unfold gotN;rw[hp];rfl
  rw[e]
  exact⟨atKey_of_not_has hD _,hD⟩
 ·obtain⟨i1,i2⟩:=plc_there s N h.sorted hp
  have hm:=(plc_mem s N h.sorted).1 hp
  have iT:(plc s N).1<T.length:=by rw[← h.len];exact i1
  have e1:N[(plc s N).1]?=some s:=by
   rw[List.getD_eq_getElem?_getD,List.getElem?_eq_getElem i1] at i2
   rw[List.getElem?_eq_getElem i1]
   simpa using i2
  have e:gotN N T s=(T.getD (plc s N).1 ⟨#[]⟩,true):=by unfold gotN;rw[hp];rfl
  rw[e]
  exact⟨h.get (plc s N).1 s (T.getD (plc s N).1 ⟨#[]⟩) e1 (by simp[List.getD,iT]),(h.has_ s hs).2 hm⟩
theorem got_bad {D:DataW Unit} {N T:List BA} (h:Rel D N T) (s:BA) (hs:nameOk s=false):gotN N T s=(⟨#[]⟩,false):=by
 unfold gotN
 rw[plc_bad h s hs]
 rfl
theorem got_put_same {D:DataW Unit} {N T:List BA} (h:Rel D N T) (s t:BA) (hs:nameOk s=true) (ht:t.size≤131072) (hl:N.length<64):gotN (putN N T s t).2.1 (putN N T s t).2.2 s=(t,true):=by
 have h':=(put_same h s t).2
 have e:(putD D s t).2=D.put (fkey s) (text t):=by
  unfold putD
  rw[if_neg (by rw[hs];decide),if_neg (by omega),if_neg (fun c=>by have:=c.2;rw[h.size] at this;omega)]
 rw[e] at h'
 obtain⟨g1,g2⟩:=got_is h' s hs
 rw[atKey_put_same h.isMap (fkey_key s)] at g1
 rw[has_put_same h.isMap (fkey_key s)] at g2
 exact Prod.ext (text_inj g1).symm g2.symm
theorem got_put_other {D:DataW Unit} {N T:List BA} (h:Rel D N T) (s t x:BA) (hx:x≠s):gotN (putN N T s t).2.1 (putN N T s t).2.2 x=gotN N T x:=by
 have h':=(put_same h s t).2
 cases hn:nameOk x with
 | false=>rw[got_bad h x hn,got_bad h' x hn]
 | true=>
  obtain⟨a1,a2⟩:=got_is h x hn
  obtain⟨b1,b2⟩:=got_is h' x hn
  have key:(putD D s t).2.atKey (fkey x) (text ⟨#[]⟩)=D.atKey (fkey x) (text ⟨#[]⟩)∧has (putD D s t).2 (fkey x)=has D (fkey x):=by
   unfold putD
   split
   ·exact⟨rfl,rfl⟩
   ·rename_i hs
    have hs':nameOk s=true:=by simpa using hs
    split
    ·exact⟨rfl,rfl⟩
    ·split
     ·exact⟨rfl,rfl⟩
     ·exact⟨atKey_put_other (fkey_ne hn hs' hx) _ _,has_put_other (fkey_ne hn hs' hx) _⟩
  rw[key.1,a1] at b1
  rw[key.2,a2] at b2
  exact Prod.ext (text_inj b1).symm b2.symm
theorem storeG_same {D:DataW Unit} {N T:List BA} (h:Rel D N T) (s t:BA) (nm:List UInt8) (e:txt nm=s) (hs:nameOk s=true) (ht:t.size≤131072) (hl:N.length<64):storeG (putN N T s t).2.1 (putN N T s t).2.2 nm=some t.data.toList:=by
 unfold storeG
 rw[e,got_put_same h s t hs ht hl,if_pos rfl]
theorem storeG_other {D:DataW Unit} {N T:List BA} (h:Rel D N T) (s t:BA) (nm:List UInt8) (e:txt nm≠s):storeG (putN N T s t).2.1 (putN N T s t).2.2 nm=storeG N T nm:=by
 unfold storeG
 rw[got_put_other h s t (txt nm) e]
end Go.Proofs.YtceflhffilldeaaGreat
namespace Go.Proofs.YtceflhffilldeaaGreat
open Go.RowKit Go.Maps Go.WideMaps Plays ObjL Ldr
def clName:List UInt8:=[67,108,105,101,110,116]
def clOb (nm:List UInt8) (key:Int):Ob:={ plainOb with name:=clName,uses:=[(nm,key)] }
def keysR (o:Ob) (key:Int):Except Int (Int×LS):=
 if o.key=key then .ok (1,(((LS.none_.mark clName).mark o.name).done o.name o).done clName (clOb o.name key)) else .error 184
theorem keys_load {G:Files} {o:Ob} {key:Int} (hu:o.uses=[]) (hne:o.name≠clName) (g1:goodO o=true) (l1:(encO o).length≤131072) (g2:goodO (clOb o.name key)=true) (l2:(encO (clOb o.name key)).length≤131072)
  (hG1:G (o.name++dotObj)=some (encO o)) (hG2:G (clName++dotObj)=some (encO (clOb o.name key))):Ldr.load G 17 clName LS.none_=keysR o key:=by
 rw[load_uses (o:=clOb o.name key) rfl (by decide) hG2 (decO_enc g2 l2) rfl]
 have h1:(LS.none_.mark clName).pos o.name=0:=by
  show (if o.name=clName then (-1:Int) else 0)=0
  rw[if_neg hne]
 have h2:Ldr.load G 16 o.name (LS.none_.mark clName)=.ok (o.key,((LS.none_.mark clName).mark o.name).done o.name o):=by
  rw[load_uses (o:=o) h1 (by decide) hG1 (decO_enc g1 l1) rfl,hu]
  rfl
 show loadBy clName (clOb o.name key) (usesL (Ldr.load G 16) [(o.name,key)] (LS.none_.mark clName))=_
 rw[usesL,h2]
 dsimp only
 unfold keysR
 by_cases hk:o.key=key
 ·rw[if_pos hk,if_pos hk]
  rfl
 ·rw[if_neg hk,if_neg hk]
  rfl
theorem letter_of {c:Int} (h:alpha c=true):letterB c=true:=by
 unfold alpha at h
 unfold letterB
 simp at h ⊢
 omega
theorem inName_of {c:Int} (h:alnum c=true):inName c=true:=by
 unfold alnum at h
 unfold inName letterB
 simp at h ⊢
 omega
theorem at_txt (l:List UInt8) (i:Nat) (h:i<l.length):at_ (txt l) i=(l[i].toNat:Int):=by
 rw[at_lt _ _ (by rw[txt_size];exact h)]
 rfl
theorem objName_ok {o:Ob} (h:goodO o=true) (hl:o.name.length+4≤24):nameOk (txt (o.name++dotObj))=true:=by
 unfold goodO namesB wordT at h
 simp only[Bool.and_eq_true,decide_eq_true_eq,List.all_eq_true] at h
 obtain⟨⟨⟨⟨⟨-,⟨⟨⟨⟨⟨n1,n2⟩,n3⟩,n4⟩,-⟩,-⟩,-⟩,-⟩,-⟩,-⟩,-⟩:=h
 generalize o.name=nm at *
 have hlen:(nm++dotObj).length=nm.length+4:=by rw[List.length_append];rfl
 rw[nameOk_iff,txt_size,hlen]
 refine⟨by omega,by omega,?_,fun i hi=>?_⟩
 ·rw[at_txt _ _ (by omega)]
  obtain⟨c,r,rfl⟩:∃ c r,nm=c::r:=by
   cases nm with
   | nil=>simp at n1
   | cons c r=>exact⟨c,r,rfl⟩
  exact letter_of n3
 ·rw[at_txt _ _ (by omega)]
  by_cases hi2:i<nm.length
  ·rw[List.getElem_append_left hi2]
   exact inName_of (n4 _ (List.getElem_mem hi2))
  ·rw[List.getElem_append_right (by omega)]
   have key:∀ c∈dotObj,inName (c.toNat:Int)=true:=by decide
   exact key _ (List.getElem_mem _)
theorem clNameOk:nameOk (txt (clName++dotObj))=true:=by decide
theorem keys_files {o:Ob} {key:Int} (hne:o.name≠clName) (g1:goodO o=true) (hl:o.name.length+4≤24) (l1:(encO o).length≤131072) (l2:(encO (clOb o.name key)).length≤131072) (s:List (BA×BA))
  (hs:s=[(txt (o.name++dotObj),txt (encO o)),(txt (clName++dotObj),txt (encO (clOb o.name key)))]) :
  storeG (stN s 2).1 (stN s 2).2 (o.name++dotObj)=some (encO o)∧storeG (stN s 2).1 (stN s 2).2 (clName++dotObj)=some (encO (clOb o.name key)):=by
 have e1:stN s 1=(putN [] [] (txt (o.name++dotObj)) (txt (encO o))).2:=by rw[hs];rfl
 have e2:stN s 2=(putN (stN s 1).1 (stN s 1).2 (txt (clName++dotObj)) (txt (encO (clOb o.name key)))).2:=by rw[hs];rfl
 obtain⟨r1,-⟩:=st_rel s 1
 have n1:=objName_ok g1 hl
 have hlen:(stN s 1).1.length<64:=by
  rw[e1]
  show (putN [] [] (txt (o.name++dotObj)) (txt (encO o))).2.1.length<64
  unfold putN
  rw[if_neg (by rw[n1];decide),if_neg (by rw[txt_size];omega)]
  exact show 1<64 by decide
 have hne2:txt (o.name++dotObj)≠txt (clName++dotObj):=fun e=>hne (List.append_cancel_right (txt_inj e))
 rw[e2]
 constructor
 ·rw[storeG_other r1 _ _ _ hne2,e1]
  rw[storeG_same Rel.empty _ _ _ rfl n1 (by rw[txt_size];exact l1) (by decide),txt_data]
 ·rw[storeG_same r1 _ _ _ rfl clNameOk (by rw[txt_size];exact l2) hlen,txt_data]
end Go.Proofs.YtceflhffilldeaaGreat
