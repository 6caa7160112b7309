/-
  Joined: ZRefA.
-/
import Derived.Test.YtceflhffilldeaaGreatZStore
import Derived.Sort.Walk0
import Derived.Deep.Onto
import Derived.Test.YtceflhffilldeaaGreatZHeld
import Derived.Deep.RegionLaw
import Derived.Deep.DeepCutAuto
set_option linter.unusedVariables false
set_option linter.unusedSimpArgs false
set_option maxRecDepth 100000
set_option maxHeartbeats 16000000
namespace Go.Proofs.YtceflhffilldeaaGreat
open Go.RowKit
theorem sb_add (a:Addr) (n:Nat):(a.add n).block=a.block:=by unfold Addr.add;split<;>rfl
def SRow (w:World) (v:Value) (l:List ByteArray):Prop:=
 l.length≤1000000∧∃ A c,v=.slice A l.length c∧∀ k,k<l.length→∃ ad,A=some ad∧ad.block<w.heap.size∧w.cell? (ad.add k)=some (.string (l.getD k ⟨#[]⟩))
theorem SRow.below {w w':World} {v:Value} {l:List ByteArray} (h:SRow w v l) (hb:Below w.heap.size w w'):SRow w' v l:=by
 obtain⟨hm,A,c,rfl,hc⟩:=h
 refine⟨hm,A,c,rfl,fun k hk=>?_⟩
 obtain⟨ad,rfl,hl,hx⟩:=hc k hk
 exact⟨ad,rfl,Nat.lt_of_lt_of_le hl hb.size,(hb.cell (p:=ad.add k) (by rw[sb_add];exact hl)).trans hx⟩
theorem srow_of_own {w:World} {base n:Nat} {e:TypeId} {v:Value} {l:List ByteArray} (hl:l.length≤1000000) (h:w.ownsRow base e 1 v n (l.map Value.string)):SRow w v l:=by
 have hn:l.length=n:=by have:=h.1;simpa using this
 rcases h.2 with ⟨rfl,h0⟩ | ⟨g,cap,cur,rfl,hb,hh,hn',hc,hs,ht⟩
 ·have:l=[]:=List.eq_nil_of_length_eq_zero (by omega)
  subst this
  exact⟨by simp,none,0,rfl,fun k hk=>absurd hk (by simp)⟩
 ·refine⟨hl,some ⟨g,0,none⟩,cap,by rw[hn],fun k hk=>⟨⟨g,0,none⟩,rfl,(h.lt g rfl).2,?_⟩⟩
  refine h.cells (g:=g) rfl k _ ?_
  rw[List.getElem?_map,List.getElem?_eq_getElem hk]
  simp[List.getD,hk]
theorem sa_src {w:World} {ad:Addr} {l:List ByteArray} (h:∀ k,k<l.length→w.cell? (ad.add k)=some (.string (l.getD k ⟨#[]⟩))):∀ j u,(l.map Value.string)[j]?=some u→w.cell? (ad.add j)=some u:=by
 intro j u hu
 rw[List.getElem?_map] at hu
 by_cases hj:j<l.length
 ·rw[List.getElem?_eq_getElem hj] at hu
  have:=h j hj
  rw[this]
  simpa [List.getD,hj] using hu
 ·rw[List.getElem?_eq_none (by omega)] at hu;cases hu
theorem sa_one (xs:List ByteArray):∀ u∈(xs.map Value.string),u.oneCell'=true:=by
 intro u hu
 simp only[List.mem_map] at hu
 obtain⟨x,_,rfl⟩:=hu
 rfl
theorem sa_nothing {P:Program} (w:World) (t ty e:TypeId) (n cap c g:Nat) (hn:n≤cap) (ht:P.underlying t=some (.slice e)) (i:TypeInfo) (hi:P.info? e=some i) (hh:∃ cur t' fr,w.heap[g]?=some (.cells cur t' fr)) :
  (Builtin.append_ #[t,t] ty #[.slice (some ⟨g,0,none⟩) n cap,.slice none 0 c]).run P w=.ok (.slice (some ⟨g,0,none⟩) n cap) w:=by
 simp[Builtin.append_,run_underlying ht,sizeOf,typeInfo,hi,Builtin.lenOf,Builtin.firstCells,storeCells,hn]
theorem wp_app_str {P:Program} {o:Oper} {a:Act} {K:Act→World→Prop} {Q:Exit→Act→World→Prop} (W:World) (s x:Operand) (t e:TypeId)
  (hop:o.op=.call { callee:=.builtin .append,args:=#[s,x],argTypes:=#[t,t] }) (bytes:Nat) (ht:P.underlying t=some (.slice e))
  (info:(P.info? e).map (fun i=>(i.zero,i.size,i.bytes))=some (some (.string ⟨#[]⟩),1,bytes)) (hb:bytes≤16) (base:Nat) (hb0:base≤W.heap.size) (g0 c0 n:Nat) (xs:List ByteArray)
  (own0:W.ownsRow base e 1 (.slice (some ⟨g0,0,none⟩) n c0) n (xs.map Value.string)) (l:List ByteArray) (v:Value) (hs:a.eval s=.slice (some ⟨g0,0,none⟩) n c0) (hx:a.eval x=v) (hr:SRow W v l) (hl:n+l.length≤1000000)
  (hK:∀ g c w2,w2.ownsRow base e 1 (.slice (some ⟨g,0,none⟩) (n+l.length) c) (n+l.length) ((xs++l).map Value.string)→W.grownBy w2 (some g0)→K (a.put o.dst (.slice (some ⟨g,0,none⟩) (n+l.length) c)) w2):o.wp P a W K Q:=by
 obtain⟨i0,hi0,hz0,hz1,hz2⟩:=info_parts info
 obtain⟨hm,A,c,rfl,hc⟩:=hr
 rcases A with _ | ad
 ·have h0:l=[]:=by
   cases l with
   | nil=>rfl
   | cons x xs=>obtain⟨ad,h,_⟩:=hc 0 (by simp);cases h
  subst h0
  have hcap:n≤c0∧∃ cur t' fr,W.heap[g0]?=some (.cells cur t' fr):=by
   rcases own0.2 with ⟨h1,_⟩ | ⟨g',cap,cur,hv,hb',hh,hn,hc',hs',ht'⟩
   ·cases h1
   ·injection hv with h1 h2 h3
    injection h1 with h1
    injection h1 with h1
    subst h1 h3
    exact⟨hn,_,_,_,hh⟩
  have HN:=fun ty=>sa_nothing (P:=P) W t ty e n c0 c g0 hcap.1 ht i0 hi0 hcap.2
  have hk:=hK g0 c0 W (by simpa using own0) (World.grownBy.refl W _)
  unfold Oper.wp execOp
  simp only[hop,resolve,invoke,builtin,Sem.run_bind,Sem.run_pure,Result.andThen_ok,List.map_toArray,List.map_cons,List.map_nil,hs,hx,List.length_nil,HN]
  exact hk
 ·refine wp_append_own W s x t hop base e i0 _ 1 bytes ht hi0 hz0 hz1 hz2 rfl (by omega) _ n (xs.map Value.string) hs own0 ad l.length c (l.map Value.string) hx (by simp)
   (sa_src (fun k hk=>by obtain⟨ad',e1,ha,hxx⟩:=hc k hk;injection e1 with e1;subst e1;exact hxx)) (sa_one _) (by simp only[maxLen];omega) (by
    have:(n+l.length)*bytes≤(n+l.length)*16:=Nat.mul_le_mul_left _ hb
    omega) hb0 ?_
  intro v2 w2 ho2 hg2 hn2
  rw[← List.map_append] at ho2
  rcases ho2.2 with ⟨rfl,h2⟩ | ⟨g,cap,cur,rfl,hg',hh,r⟩
  ·cases hn2.1 rfl
   rename_i h3 h4
   cases h3
  ·exact hK g cap w2 ho2 hg2
end Go.Proofs.YtceflhffilldeaaGreat
namespace Go.Proofs.YtceflhffilldeaaGreat
open Go.RowKit
theorem rp_add (g a k:Nat):(⟨g,a,none⟩:Addr).add k=⟨g,a+k,none⟩:=by unfold Addr.add;split<;>simp_all
theorem srow_take {w:World} {base n c g c':Nat} {e:TypeId} {l:List ByteArray} (h:w.ownsRow base e 1 (.slice (some ⟨g,0,none⟩) n c) n (l.map Value.string)) (i:Nat) (hi:i≤n) (hn:n≤1000000):SRow w (.slice (some ⟨g,0,none⟩) i c') (l.take i):=by
 have hl:l.length=n:=by have:=h.1;simpa using this
 have ht:(l.take i).length=i:=by rw[List.length_take];omega
 refine⟨by omega,some ⟨g,0,none⟩,c',by rw[ht],fun k hk=>⟨⟨g,0,none⟩,rfl,(h.lt g rfl).2,?_⟩⟩
 have hk':k<l.length:=by omega
 refine h.cells (g:=g) rfl k _ ?_
 rw[List.getElem?_map,List.getElem?_eq_getElem hk']
 simp[List.getD,List.getElem?_take,show k<i by omega,hk']
theorem srow_drop {w:World} {base n c g c':Nat} {e:TypeId} {l:List ByteArray} (h:w.ownsRow base e 1 (.slice (some ⟨g,0,none⟩) n c) n (l.map Value.string)) (j:Nat) (hj:j≤n) (hn:n≤1000000):SRow w (.slice (some ⟨g,j,none⟩) (n-j) c') (l.drop j):=by
 have hl:l.length=n:=by have:=h.1;simpa using this
 have hd:(l.drop j).length=n-j:=by rw[List.length_drop,hl]
 refine⟨by omega,some ⟨g,j,none⟩,c',by rw[hd],fun k hk=>⟨⟨g,j,none⟩,rfl,(h.lt g rfl).2,?_⟩⟩
 have hk':j+k<l.length:=by omega
 have hx:=h.cells (g:=g) rfl (j+k) (.string (l[j+k]'hk')) (by rw[List.getElem?_map,List.getElem?_eq_getElem hk'];rfl)
 rw[rp_add,Nat.zero_add] at hx
 rw[rp_add,hx]
 simp[List.getD,List.getElem?_drop,List.getElem?_eq_getElem hk']
end Go.Proofs.YtceflhffilldeaaGreat
namespace Go.Proofs.YtceflhffilldeaaGreat
open Go.RowKit Go.Maps Go.WideMaps
def gtB (x s:ByteArray):Bool:=!(Op.bytesLess x.toList s.toList || x.toList==s.toList)
def plc (s:ByteArray):List ByteArray→Nat×Bool
 | []=>(0,false)
 | x::r=>if (x.toList==s.toList)=true then (0,true) else if gtB x s=true then (0,false) else ((plc s r).1+1,(plc s r).2)
theorem plc_le (s:ByteArray):∀ l,(plc s l).1≤l.length
 | []=>Nat.le_refl _
 | x::r=>by
  rw[plc]
  split
  ·exact Nat.zero_le _
  ·split
   ·exact Nat.zero_le _
   ·have:=plc_le s r
    simp only[List.length_cons];omega
theorem plc_drop (s:ByteArray) (l:List ByteArray) (k:Nat) (hk:k<l.length):plc s (l.drop k)=if ((l.getD k ⟨#[]⟩).toList==s.toList)=true then (0,true) else if gtB (l.getD k ⟨#[]⟩) s=true then (0,false) else ((plc s (l.drop (k+1))).1+1,(plc s (l.drop (k+1))).2):=by
 rw[List.drop_eq_getElem_cons hk,plc]
 simp only[List.getD_eq_getElem?_getD,List.getElem?_eq_getElem hk,Option.getD_some]
theorem gtr_run (x s:ByteArray) (b:Bool) (h:gtB x s=b) (W:World):(binOp .gtr 9 (.string x) (.string s)).run Tryz.prog W=.ok (.bool b) W:=by
 have e:binOp .gtr 9 (.string x) (.string s)=pure (.bool (gtB x s)):=by simp[binOp,Op.stringOp,gtB]
 rw[e,h,Sem.run_pure]
theorem ref_place (p:Nat) (vt:Value) (v:Value) (N:List ByteArray) (s:ByteArray) (w:World) (hp:Blk w p 76 #[v,vt]) (hN:SRow w v N) :
  Calls Tryz.prog 39 #[.pointer (some ⟨p,0,none⟩),.string s] w fun e w'=>e=.returned (.tuple #[.int .i64 ((plc s N).1:Int),.bool (plc s N).2])∧w=w':=by
 obtain⟨hm,A,c,rfl,hc⟩:=hN
 have hc:=zh hc
 have C1:=hp.cell 0
 have C2:=hp.frozen 0
 simp only[List.getElem?_toArray,List.getElem?_cons_zero] at C1
 clear hp
 go_enter Tryz.func39,Tryz.ntmps39
 go_wp2_with fail
 go_loop [6] (fun i=>∃ k:Nat,i=.int .i64 k∧k≤N.length∧Hid (plc s N=(k+(plc s (N.drop k)).1,(plc s (N.drop k)).2))) (fun i=>N.length-(intOf i).toNat)
 case atStart=>exact⟨0,rfl,by omega,zh (by simp)⟩
 case round=>
  obtain⟨k,rfl,hk,hpl⟩:=hrel
  by_cases hlt:(k:Int)<(N.length:Int)
  ·obtain⟨ad,rfl,-,hx⟩:=hc.out k (by omega)
   have hd:=zh (plc_drop s N k (by omega))
   generalize N.getD k ⟨#[]⟩=x at *
   cases h1:(x.toList==s.toList)
   ·cases h2:gtB x s
    ·have hnext:plc s N=(k+1+(plc s (N.drop (k+1))).1,(plc s (N.drop (k+1))).2):=by
      rw[hpl.out,hd.out,h1,h2]
      simp;omega
     have hG:=gtr_run x s false h2
     have hnext':=zh hnext
     clear hpl hd hnext h2
     go_wp2_with fail
     go_round
     case rel=>exact⟨k+1,by go_num,by omega,hnext'⟩
     case measure=>simp[intOf];omega
    ·have hres:plc s N=(k,false):=by
      rw[hpl.out,hd.out,h1,h2]
      simp
     have hG:=gtr_run x s true h2
     have hres:=zh hres
     clear hpl hd
     go_wp2_with fail
     go_ret2
     exact⟨rfl,rfl⟩
   ·have hres:plc s N=(k,true):=by
     rw[hpl.out,hd.out,h1]
     simp
    have hres:=zh hres
    clear hpl hd
    go_wp2_with fail
    go_ret2
    exact⟨rfl,rfl⟩
  ·obtain rfl:k=N.length:=by omega
   have hres:plc s N=(N.length,false):=by
    rw[hpl.out,List.drop_length,plc]
    simp
   have hres:=zh hres
   clear hpl
   go_wp2_with fail
   go_ret2
   exact⟨rfl,rfl⟩
end Go.Proofs.YtceflhffilldeaaGreat
namespace Go.Proofs.YtceflhffilldeaaGreat
open Go.RowKit Go.Maps Go.WideMaps
namespace Plays
def lt (a b:ByteArray):Prop:=a.data.toList<b.data.toList
theorem lt_irrefl (a:ByteArray):¬ lt a a:=List.lt_irrefl _
theorem lt_trans {a b c:ByteArray} (h:lt a b) (k:lt b c):lt a c:=List.lt_trans h k
theorem lt_asymm {a b:ByteArray} (h:lt a b):¬ lt b a:=fun k=>lt_irrefl a (lt_trans h k)
theorem eq_of {a b:ByteArray} (h:a.data.toList=b.data.toList):a=b:=ByteArray.ext (Array.toList_inj.1 h)
theorem lt_or (a b:ByteArray):lt a b∨a=b∨lt b a:=by
 by_cases h1:a.data.toList<b.data.toList
 ·exact Or.inl h1
 ·by_cases h2:b.data.toList<a.data.toList
  ·exact Or.inr (Or.inr h2)
  ·exact Or.inr (Or.inl (eq_of (List.le_antisymm h2 h1)))
theorem same_iff (a b:ByteArray):(a.toList==b.toList)=true↔a=b:=by
 rw[beq_iff_eq,ByteArray.toList_eq,ByteArray.toList_eq]
 exact⟨eq_of,fun h=>by rw[h]⟩
theorem gtB_iff (x s:ByteArray):gtB x s=true↔lt s x:=by
 unfold gtB
 rw[bytesLess_eq]
 simp only[ByteArray.toList_eq,Bool.not_eq_true',Bool.or_eq_false_iff,decide_eq_false_iff_not,beq_eq_false_iff_ne]
 refine⟨fun ⟨h1,h2⟩=>?_,fun h=>⟨lt_asymm h,fun e=>lt_irrefl s (by unfold lt at h ⊢;rwa [e] at h)⟩⟩
 rcases lt_or x s with h | h | h
 ·exact absurd h h1
 ·exact absurd (by rw[h]) h2
 ·exact h
def Sorted (N:List ByteArray):Prop:=N.Pairwise lt
theorem Sorted.tail {a:ByteArray} {r:List ByteArray} (h:Sorted (a::r)):Sorted r:=(List.pairwise_cons.1 h).2
theorem plc_there (s:ByteArray):∀ (N:List ByteArray),Sorted N→(plc s N).2=true→(plc s N).1<N.length∧N.getD (plc s N).1 ⟨#[]⟩=s
 | [],_,h=>by simp[plc] at h
 | x::r,hs,h=>by
  rw[plc] at h ⊢
  by_cases h1:(x.toList==s.toList)=true
  ·rw[if_pos h1]
   exact⟨by simp,by simpa [List.getD] using (same_iff x s).1 h1⟩
  ·rw[if_neg h1] at h ⊢
   by_cases h2:gtB x s=true
   ·rw[if_pos h2] at h;cases h
   ·rw[if_neg h2] at h ⊢
    obtain⟨i1,i2⟩:=plc_there s r hs.tail h
    exact⟨by simp;omega,by simpa [List.getD] using i2⟩
theorem plc_not (s:ByteArray):∀ (N:List ByteArray),Sorted N→(plc s N).2=false→(∀ x∈N.take (plc s N).1,lt x s)∧(∀ x∈N.drop (plc s N).1,lt s x)
 | [],_,_=>by simp[plc]
 | x::r,hs,h=>by
  rw[plc] at h ⊢
  by_cases h1:(x.toList==s.toList)=true
  ·rw[if_pos h1] at h;cases h
  ·rw[if_neg h1] at h ⊢
   by_cases h2:gtB x s=true
   ·rw[if_pos h2]
    have hx:=(gtB_iff x s).1 h2
    refine⟨by simp,fun y hy=>?_⟩
    rw[List.drop_zero] at hy
    rcases List.mem_cons.1 hy with rfl | hy
    ·exact hx
    ·exact lt_trans hx ((List.pairwise_cons.1 hs).1 y hy)
   ·rw[if_neg h2] at h ⊢
    obtain⟨i1,i2⟩:=plc_not s r hs.tail h
    refine⟨fun y hy=>?_,fun y hy=>i2 y (by simpa using hy)⟩
    rw[List.take_succ_cons] at hy
    rcases List.mem_cons.1 hy with rfl | hy
    ·rcases lt_or y s with h3 | h3 | h3
     ·exact h3
     ·exact absurd ((same_iff y s).2 h3) h1
     ·exact absurd ((gtB_iff y s).2 h3) h2
    ·exact i1 y hy
theorem plc_mem (s:ByteArray) (N:List ByteArray) (hs:Sorted N):(plc s N).2=true↔s∈N:=by
 constructor
 ·intro h
  obtain⟨i1,i2⟩:=plc_there s N hs h
  rw[List.getD_eq_getElem?_getD,List.getElem?_eq_getElem i1] at i2
  exact i2 ▸ List.getElem_mem _
 ·intro h
  cases hb:(plc s N).2
  ·obtain⟨i1,i2⟩:=plc_not s N hs hb
   rw[← List.take_append_drop (plc s N).1 N] at h
   rcases List.mem_append.1 h with h | h
   ·exact absurd (i1 s h) (lt_irrefl s)
   ·exact absurd (i2 s h) (lt_irrefl s)
  ·rfl
def ins (i:Nat) (s:ByteArray) (N:List ByteArray):List ByteArray:=N.take i++s::N.drop i
def out (i:Nat) (N:List ByteArray):List ByteArray:=N.take i++N.drop (i+1)
theorem ins_sorted (s:ByteArray) (N:List ByteArray) (hs:Sorted N) (h:(plc s N).2=false):Sorted (ins (plc s N).1 s N):=by
 obtain⟨i1,i2⟩:=plc_not s N hs h
 have hs':=hs
 unfold Sorted at hs'
 rw[← List.take_append_drop (plc s N).1 N,List.pairwise_append] at hs'
 obtain⟨p1,p2,p3⟩:=hs'
 unfold ins Sorted
 rw[List.pairwise_append]
 refine⟨p1,List.pairwise_cons.2 ⟨i2,p2⟩,fun a ha b hb=>?_⟩
 rcases List.mem_cons.1 hb with rfl | hb
 ·exact i1 a ha
 ·exact p3 a ha b hb
theorem sorted_nodup {N:List ByteArray} (h:Sorted N):N.Nodup:=List.Pairwise.imp (R:=lt) (S:=fun a b=>a≠b) (fun {a b} hab e=>by subst e;exact lt_irrefl _ hab) h
end Plays
end Go.Proofs.YtceflhffilldeaaGreat
namespace Go.Proofs.YtceflhffilldeaaGreat
open Go.RowKit Go.Maps Go.WideMaps
namespace Plays
variable {α:Type}
def insA (i:Nat) (s:α) (N:List α):List α:=N.take i++s::N.drop i
theorem insA_get (i:Nat) (s:α) (N:List α) (hi:i≤N.length) (j:Nat):(insA i s N)[j]?=if j<i then N[j]? else if j=i then some s else N[j-1]?:=by
 have hl:(N.take i).length=i:=by rw[List.length_take];omega
 unfold insA
 by_cases h1:j<i
 ·rw[if_pos h1,List.getElem?_append_left (by omega),List.getElem?_take,if_pos h1]
 ·rw[if_neg h1,List.getElem?_append_right (by omega),hl]
  by_cases h2:j=i
  ·subst h2;simp
  ·rw[if_neg h2,show j-i=(j-i-1)+1 by omega,List.getElem?_cons_succ,List.getElem?_drop]
   congr 1;omega
theorem insA_len (i:Nat) (s:α) (N:List α) (hi:i≤N.length):(insA i s N).length=N.length+1:=by
 simp[insA];omega
theorem insA_mem (i:Nat) (s x:ByteArray) (N:List ByteArray):x∈insA i s N↔x=s∨x∈N:=by
 unfold insA
 rw[List.mem_append,List.mem_cons]
 constructor
 ·rintro (h | h | h)
  ·exact Or.inr (List.mem_of_mem_take h)
  ·exact Or.inl h
  ·exact Or.inr (List.mem_of_mem_drop h)
 ·rintro (h | h)
  ·exact Or.inr (Or.inl h)
  ·rw[← List.take_append_drop i N] at h
   rcases List.mem_append.1 h with h | h
   ·exact Or.inl h
   ·exact Or.inr (Or.inr h)
structure Rel (D:DataW Unit) (N T:List ByteArray):Prop where
 len:N.length=T.length
 sorted:Sorted N
 ok:∀ s∈N,nameOk s=true
 has_:∀ s,nameOk s=true→(has D (fkey s)=true↔s∈N)
 get:∀ (i:Nat) (n t:ByteArray),N[i]?=some n→T[i]?=some t→D.atKey (fkey n) (text ⟨#[]⟩)=text t
 named:Named D
 tidy:Tidy D
 isMap:IsMap D
 size:Maps.size D=N.length
theorem Rel.empty:Rel (.map []) [] []:=
 ⟨rfl,List.Pairwise.nil,by simp,fun s _=>by simp[has],fun i n t h=>by simp at h,named_empty,tidy_empty,⟨[],rfl⟩,rfl⟩
theorem Rel.put_old {D:DataW Unit} {N T:List ByteArray} (h:Rel D N T) (s t:ByteArray) (hs:nameOk s=true) (hp:(plc s N).2=true):Rel (D.put (fkey s) (text t)) N (T.set (plc s N).1 t):=by
 obtain⟨i1,i2⟩:=plc_there s N h.sorted hp
 have hm:s∈N:=(plc_mem s N h.sorted).1 hp
 have hD:=(h.has_ s hs).2 hm
 refine⟨by simp[h.len],h.sorted,h.ok,fun x hx=>?_,fun i n u hn hu=>?_,named_put h.named hs _,h.tidy.put (fkey_key s) _,h.isMap.put _ _,by rw[size_put h.tidy,if_pos hD];exact h.size⟩
 ·by_cases e:x=s
  ·subst e
   rw[has_put_same h.isMap (fkey_key x)]
   simp[hm]
  ·rw[has_put_other (fkey_ne hx hs e)]
   exact h.has_ x hx
 ·by_cases e:n=s
  ·subst e
   have hi:i=(plc n N).1:=by
    have hnd:=sorted_nodup h.sorted
    have a1:N[(plc n N).1]?=some n:=by
     rw[List.getElem?_eq_getElem i1]
     rw[List.getD_eq_getElem?_getD,List.getElem?_eq_getElem i1] at i2
     simpa using i2
    exact(List.getElem?_inj (List.getElem?_eq_some_iff.1 hn).1 hnd).1 (hn.trans a1.symm)
   subst hi
   rw[List.getElem?_set] at hu
   rw[if_pos rfl,if_pos (by rw[← h.len];exact i1)] at hu
   injection hu with hu
   subst hu
   exact atKey_put_same h.isMap (fkey_key n) _ _
  ·rw[atKey_put_other (fkey_ne (h.ok n (List.mem_of_getElem? hn)) hs e)]
   refine h.get i n u hn ?_
   rw[List.getElem?_set] at hu
   split at hu
   ·rename_i hie
    exfalso
    subst hie
    rw[List.getD_eq_getElem?_getD,hn] at i2
    exact e (by simpa using i2)
   ·exact hu
theorem Rel.put_new {D:DataW Unit} {N T:List ByteArray} (h:Rel D N T) (s t:ByteArray) (hs:nameOk s=true) (hp:(plc s N).2=false):Rel (D.put (fkey s) (text t)) (insA (plc s N).1 s N) (insA (plc s N).1 t T):=by
 have hi:=plc_le s N
 have hiT:(plc s N).1≤T.length:=by rw[← h.len];exact hi
 have hm:s ∉ N:=fun hm=>by have:=(plc_mem s N h.sorted).2 hm;rw[hp] at this;cases this
 have hD:¬ has D (fkey s)=true:=fun hd=>hm ((h.has_ s hs).1 hd)
 refine⟨by rw[insA_len _ _ _ hi,insA_len _ _ _ hiT,h.len],ins_sorted s N h.sorted hp,fun x hx=>?_,fun x hx=>?_,fun i n u hn hu=>?_,named_put h.named hs _,h.tidy.put (fkey_key s) _,h.isMap.put _ _,by rw[size_put h.tidy,if_neg hD,insA_len _ _ _ hi,h.size]⟩
 ·rcases (insA_mem _ _ _ _).1 hx with rfl | hx
  ·exact hs
  ·exact h.ok x hx
 ·rw[insA_mem]
  by_cases e:x=s
  ·subst e
   rw[has_put_same h.isMap (fkey_key x)]
   simp
  ·rw[has_put_other (fkey_ne hx hs e)]
   simp only[e,false_or]
   exact h.has_ x hx
 ·rw[insA_get _ _ _ hi] at hn
  rw[insA_get _ _ _ hiT] at hu
  by_cases h1:i<(plc s N).1
  ·rw[if_pos h1] at hn hu
   have hnN:=List.mem_of_getElem? hn
   rw[atKey_put_other (fkey_ne (h.ok n hnN) hs (fun e=>hm (e ▸ hnN)))]
   exact h.get i n u hn hu
  ·rw[if_neg h1] at hn hu
   by_cases h2:i=(plc s N).1
   ·rw[if_pos h2] at hn hu
    injection hn with hn
    injection hu with hu
    subst hn hu
    exact atKey_put_same h.isMap (fkey_key s) _ _
   ·rw[if_neg h2] at hn hu
    have hnN:=List.mem_of_getElem? hn
    rw[atKey_put_other (fkey_ne (h.ok n hnN) hs (fun e=>hm (e ▸ hnN)))]
    exact h.get _ n u hn hu
theorem Rel.del_none {D:DataW Unit} {N T:List ByteArray} (h:Rel D N T) (s:ByteArray) (hs:nameOk s=true) (hp:(plc s N).2=false):has D (fkey s)=false:=by
 cases hd:has D (fkey s)
 ·rfl
 ·have:=(plc_mem s N h.sorted).2 ((h.has_ s hs).1 hd)
  rw[hp] at this;cases this
end Plays
end Go.Proofs.YtceflhffilldeaaGreat
namespace Go.Proofs.YtceflhffilldeaaGreat
open Go.RowKit Go.Maps Go.WideMaps
namespace Plays
def mk (l:List UInt8):ByteArray:=⟨l.toArray⟩
end Plays
end Go.Proofs.YtceflhffilldeaaGreat
namespace Go.Proofs.YtceflhffilldeaaGreat
open Go.RowKit Go.Maps Go.WideMaps
theorem rs_str_info:(Tryz.prog.info? 9).map (fun i=>(i.zero,i.size,i.bytes))=some (some (.string ⟨#[]⟩),1,16):=by kernel_rfl
end Go.Proofs.YtceflhffilldeaaGreat
namespace Go.Proofs.YtceflhffilldeaaGreat
open Go.RowKit Go.Maps Go.WideMaps
theorem own_kept {S:Nat→Prop} {w w':World} {base n size:Nat} {e:TypeId} {v:Value} {xs:List Value} (h:w.ownsRow base e size v n xs) (hk:Kept S w w') (hS:∀ k,v.ownBlock=some k→S k):w'.ownsRow base e size v n xs:=by
 obtain⟨h1,h2⟩:=h
 refine⟨h1,?_⟩
 rcases h2 with h2 | ⟨g,cap,cur,rfl,hg,hh,r⟩
 ·exact Or.inl h2
 ·exact Or.inr ⟨g,cap,cur,rfl,hg,(hk.block g (hS g rfl)).trans hh,r⟩
theorem own_cases {w:World} {base n:Nat} {e:TypeId} {v:Value} {xs:List Value} (h:w.ownsRow base e 1 v n xs):(v=.slice none 0 0∧n=0)∨∃ g c,v=.slice (some ⟨g,0,none⟩) n c∧n≤c:=by
 rcases h.2 with h1 | ⟨g,cap,cur,rfl,hg,hh,h3,r⟩
 ·exact Or.inl h1
 ·exact Or.inr ⟨g,cap,rfl,h3⟩
theorem srow_none {w:World} {l:List ByteArray} {n c:Nat} (h:l=[]) (hn:n=0):SRow w (.slice none n c) l:=by
 subst h hn
 exact⟨by simp,none,c,rfl,fun k hk=>absurd hk (by simp)⟩
theorem srow_one {w:World} {g:Nat} {e:TypeId} {s:ByteArray} (h:Blk w g e #[.string s]):SRow w (.slice (some ⟨g,0,none⟩) 1 1) [s]:=
 ⟨by simp,some ⟨g,0,none⟩,1,rfl,fun k hk=>⟨⟨g,0,none⟩,rfl,h.lt,by
  have hk0:k=0:=by simpa using hk
  subst hk0
  rw[rp_add]
  exact h.cell 0⟩⟩
theorem srow_nothing {w:World} {g c:Nat}:SRow w (.slice (some ⟨g,0,none⟩) 0 c) []:=⟨by simp,some ⟨g,0,none⟩,c,rfl,fun k hk=>absurd hk (by simp)⟩
theorem step_app_str {P:Program} {ops:Array Oper} {o:Oper} {a:Act} {K:Act→World→Prop} {Q:Exit→Act→World→Prop} {E:Prop} (W:World) (hgd:o.guard=none) (s x:Operand) (t e:TypeId)
  (hop:o.op=.call { callee:=.builtin .append,args:=#[s,x],argTypes:=#[t,t] }) (bytes:Nat) (ht:P.underlying t=some (.slice e))
  (info:(P.info? e).map (fun i=>(i.zero,i.size,i.bytes))=some (some (.string ⟨#[]⟩),1,bytes)) (hb:bytes≤16) (base:Nat) (hb0:base≤W.heap.size) (g0 c0 n:Nat) (xs:List ByteArray)
  (own0:W.ownsRow base e 1 (.slice (some ⟨g0,0,none⟩) n c0) n (xs.map Value.string)) (l:List ByteArray) (v:Value) (hs:a.eval s=.slice (some ⟨g0,0,none⟩) n c0) (hx:a.eval x=v) (hr:SRow W v l) (m:Nat) (hm:n+l.length=m) (hl:m≤1000000)
  (hK:∀ g c w2,w2.ownsRow base e 1 (.slice (some ⟨g,0,none⟩) m c) m ((xs++l).map Value.string)→W.grownBy w2 (some g0)→K (a.put o.dst (.slice (some ⟨g,0,none⟩) m c)) w2) :
  if Region.wanted o (yielded ops a.tmps)=true then Oper.wp P o a W K Q else E:=by
 subst hm
 rw[if_pos (by simp[Region.wanted,hgd])]
 exact wp_app_str W s x t e hop bytes ht info hb base hb0 g0 c0 n xs own0 l v hs hx hr hl hK
structure RefIs (W:World) (p:Nat) (v u:Value) (N T:List ByteArray):Prop where
 blk:Blk W p 76 #[v,u]
 names:W.ownsRow 0 9 1 v N.length (N.map Value.string)
 texts:W.ownsRow 0 9 1 u T.length (T.map Value.string)
 len:N.length=T.length
 small:N.length≤1000000
 np:∀ k,v.ownBlock=some k→k≠p
 tp:∀ k,u.ownBlock=some k→k≠p
 nt:∀ k,v.ownBlock=some k→u.ownBlock≠some k
theorem RefIs.kept {S:Nat→Prop} {W W':World} {p:Nat} {v u:Value} {N T:List ByteArray} (h:RefIs W p v u N T) (hk:Kept S W W') (hp:S p) (hv:∀ k,v.ownBlock=some k→S k) (hu:∀ k,u.ownBlock=some k→S k):RefIs W' p v u N T:=
 ⟨h.blk.kept hk hp,own_kept h.names hk hv,own_kept h.texts hk hu,h.len,h.small,h.np,h.tp,h.nt⟩
theorem own_len {w:World} {base n:Nat} {e:TypeId} {v:Value} {l:List ByteArray} (h:w.ownsRow base e 1 v n (l.map Value.string)):l.length=n:=by have:=h.1;simpa using this
theorem ref_made {w wc w':World} {p g4 c4 n1 g5 c5 n2:Nat} {N T:List ByteArray} (h1:Blk w' p 76 #[.slice (some ⟨g4,0,none⟩) n1 c4,.slice (some ⟨g5,0,none⟩) n2 c5]) (h2:wc.ownsRow w.heap.size 9 1 (.slice (some ⟨g4,0,none⟩) n1 c4) n1 (N.map Value.string))
  (h3:w'.ownsRow wc.heap.size 9 1 (.slice (some ⟨g5,0,none⟩) n2 c5) n2 (T.map Value.string)) (k:Kept (fun k=>k<w.heap.size∧k≠p) w wc) (k':Kept (fun k=>k<wc.heap.size∧k≠p) wc w') (hp:p<w.heap.size) (hl:N.length=T.length) (hs:N.length≤1000000) :
  ∃ v u,RefIs w' p v u N T∧(∀ k,v.ownBlock=some k→w.heap.size≤k)∧(∀ k,u.ownBlock=some k→w.heap.size≤k)∧Kept (fun k=>k<w.heap.size∧k≠p) w w':=by
 have a1:=h2.lt g4 rfl
 have a2:=h3.lt g5 rfl
 have e1:=own_len h2
 have e2:=own_len h3
 subst e1 e2
 refine⟨_,_,⟨h1,(own_kept h2 k' (fun k hk=>by have hk:=Option.some.inj hk;dsimp only at hk;subst hk;exact⟨a1.2,by omega⟩)).mono (Nat.zero_le _),h3.mono (Nat.zero_le _),hl,hs,?_,?_,?_⟩,?_,?_,?_⟩
 ·intro k hk;have hk:=Option.some.inj hk;dsimp only at hk;subst hk;omega
 ·intro k hk;have hk:=Option.some.inj hk;dsimp only at hk;subst hk;have:=k.size;omega
 ·intro k hk e;have hk:=Option.some.inj hk;dsimp only at hk;have e:=Option.some.inj e;dsimp only at e;subst hk;omega
 ·intro k hk;have hk:=Option.some.inj hk;dsimp only at hk;subst hk;omega
 ·intro k hk;have hk:=Option.some.inj hk;dsimp only at hk;subst hk;have:=k.size;omega
 ·exact k.trans (k'.mono (fun j hj=>⟨Nat.lt_of_lt_of_le hj.1 k.size,hj.2⟩))
end Go.Proofs.YtceflhffilldeaaGreat
namespace Go.Proofs.YtceflhffilldeaaGreat
open Go.RowKit Go.Maps Go.WideMaps
theorem ref07_put_bad (a:Addr) (s t:ByteArray) (w:World) (hsz:s.size≤9223372036854775807) (hok:nameOk s=false) :
  Calls Tryz.prog 26 #[.pointer (some a),.string s,.string t] w fun e w'=>e=.returned (.int .i64 70)∧w=w':=by
 have NM:=fun W=>zh (ref07_name s W hsz)
 rw[hok] at NM
 clear hok
 go_enter Tryz.func26,Tryz.ntmps26
 go_wp2_with fail
 refine(NM _).out.mono ?_
 rintro e w1 ⟨rfl,rfl⟩
 go_wp2_with fail
 go_ret
 exact⟨rfl,rfl⟩
theorem ref07_put_long (a:Addr) (s t:ByteArray) (w:World) (hsz:s.size≤9223372036854775807) (hok:nameOk s=true) (ht:131072<(t.size:Int)) :
  Calls Tryz.prog 26 #[.pointer (some a),.string s,.string t] w fun e w'=>e=.returned (.int .i64 2)∧w=w':=by
 have NM:=fun W=>zh (ref07_name s W hsz)
 rw[hok] at NM
 clear hok
 go_enter Tryz.func26,Tryz.ntmps26
 go_wp2_with fail
 refine(NM _).out.mono ?_
 rintro e w1 ⟨rfl,rfl⟩
 go_wp2_with fail
 go_ret
 exact⟨rfl,rfl⟩
theorem ref07_put_full (p:Nat) (v u:Value) (N T:List ByteArray) (s t:ByteArray) (w:World) (h:RefIs w p v u N T) (hsz:s.size≤9223372036854775807) (hok:nameOk s=true) (ht:(t.size:Int)≤131072) (hN:N.length=64) (hpl:(plc s N).2=false) :
  Calls Tryz.prog 26 #[.pointer (some ⟨p,0,none⟩),.string s,.string t] w fun e w'=>e=.returned (.int .i64 3)∧w=w':=by
 have PL:=ref_place p u v N s w h.blk (srow_of_own h.small h.names)
 rw[hpl] at PL
 have PL':=zh PL
 have NM:=fun W=>zh (ref07_name s W hsz)
 rw[hok] at NM
 obtain⟨blk,names,texts,len,small,np,tp,nt⟩:=h
 rcases own_cases names with ⟨rfl,hL0⟩ | ⟨g,c,rfl,hck⟩
 ·omega
 have C9:=blk.cell 0
 simp only[gAr,gC0,gCs] at C9
 have h64:((N.length:Int)==64)=true:=by rw[beq_iff_eq];omega
 clear hok hpl hN PL len
 go_enter Tryz.func26,Tryz.ntmps26
 go_wp2_with fail
 refine(NM _).out.mono ?_
 rintro e w1 ⟨rfl,rfl⟩
 go_wp2_with fail
 refine PL'.out.mono ?_
 rintro e w1 ⟨rfl,rfl⟩
 go_wp2_with fail
 go_ret
 exact⟨rfl,rfl⟩
theorem RefIs.texts_set {w:World} {p g c:Nat} {v:Value} {N T:List ByteArray} (h:RefIs w p v (.slice (some ⟨g,0,none⟩) T.length c) N T) (i:Nat) (hi:i<T.length) (t:ByteArray) :
  RefIs (w.setCell ⟨g,i,none⟩ (.string t)) p v (.slice (some ⟨g,0,none⟩) T.length c) N (T.set i t):=by
 obtain⟨blk,names,texts,len,small,np,tp,nt⟩:=h
 have hgp:=tp g rfl
 refine⟨blk.far (fun e=>hgp e.symm) _,ownsRow_setCell_other names (fun e=>nt g e rfl) _,?_,by simp[len],small,np,tp,nt⟩
 have:=(texts.stored i (.string t)).1
 simp only[List.length_set,List.map_set]
 exact this
theorem ref07_put_old (p i:Nat) (v u:Value) (N T:List ByteArray) (s t:ByteArray) (w:World) (h:RefIs w p v u N T) (hi:i<N.length) (hsz:s.size≤9223372036854775807) (hok:nameOk s=true) (ht:(t.size:Int)≤131072) (hpl:plc s N=(i,true)) :
  Calls Tryz.prog 26 #[.pointer (some ⟨p,0,none⟩),.string s,.string t] w fun e w'=>e=.returned (.int .i64 0)∧RefIs w' p v u N (T.set i t)∧Kept (fun k=>k<w.heap.size∧u.ownBlock≠some k) w w':=by
 have PL:=ref_place p u v N s w h.blk (srow_of_own h.small h.names)
 rw[hpl] at PL
 have PL':=zh PL
 have NM:=fun W=>zh (ref07_name s W hsz)
 rw[hok] at NM
 have HR:=zh h
 have len:=h.len
 rcases own_cases h.texts with ⟨rfl,hL0⟩ | ⟨g,c,rfl,hck⟩
 ·omega
 have HS:=zh (h.texts_set i (by omega) t)
 have C9:=h.blk.cell 1
 simp only[gAr,gC0,gCs] at C9
 have C8:w.cell? ⟨g,i,none⟩=some (.string (T.getD i ⟨#[]⟩)):=by rw[h.texts.cellAt i (by omega)];simp[show i<T.length by omega]
 have F8:=h.texts.frozenAt i
 have b1:(i:Int)<T.length:=by omega
 clear hok hpl PL len h
 generalize T.getD i ⟨#[]⟩=z at *
 go_enter Tryz.func26,Tryz.ntmps26
 go_wp2_with fail
 refine(NM _).out.mono ?_
 rintro e w1 ⟨rfl,rfl⟩
 go_wp2_with fail
 refine PL'.out.mono ?_
 rintro e w1 ⟨rfl,rfl⟩
 go_wp2_with fail
 go_ret
 exact⟨rfl,HS.out,(Kept.refl _ w).setCell (fun h=>h.2 rfl) _⟩
end Go.Proofs.YtceflhffilldeaaGreat
