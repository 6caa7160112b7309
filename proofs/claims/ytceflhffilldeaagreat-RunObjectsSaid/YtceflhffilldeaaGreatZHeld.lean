/-
  Joined: ZHeld.
-/
import Derived.OrdersHeld
import Derived.Deep.RegionHeld
import Derived.Test.YtceflhffilldeaaGreatZKept
set_option linter.unusedVariables false
set_option linter.unusedSimpArgs false
set_option maxRecDepth 100000
set_option maxHeartbeats 16000000
namespace Go.Proofs.YtceflhffilldeaaGreat
section
variable {P:Program} {ops:Array Oper} {Q:Exit→Act→World→Prop} {md:Region.Mode} {S:World→Prop} {z:Nat}
def waitsOn (md:Region.Mode) (ops:Array Oper) (z i:Nat):Bool:=
 ((ops[z]?).map fun o=>o.after.any fun e=>Region.binds md e && e.on==i).getD false
theorem waitsOn_spec {listed:Array Bool} {i:Nat} (h:waitsOn md ops z i=true) (hz:z∈Region.ready md ops listed):listed.getD i false=true:=by
 unfold waitsOn at h
 obtain⟨_,oz,hoz,hall⟩:=mem_ready.1 hz
 simp only[hoz,Option.map_some,Option.getD_some,Array.any_eq_true] at h
 obtain⟨k,hk,h2⟩:=h
 simp only[Bool.and_eq_true,beq_iff_eq] at h2
 have h3:=hall oz.after[k] (Array.getElem_mem hk) h2.1
 rw[h2.2] at h3
 exact h3
def wpAnyF (P:Program) (md:Region.Mode) (ops:Array Oper) (Q:Exit→Act→World→Prop) (S:World→Prop) (z:Nat):Nat→Array Bool→Act→World→Prop
 | 0,listed,a,w=>Region.ready md ops listed=[]∧Q .normal a w
 | fuel+1,listed,a,w=>
  (Region.ready md ops listed=[]→Q .normal a w) ∧
  ∀ i∈Region.ready md ops listed,wpOp P ops Q i (fun a' w'=>(i≠z→S w')∧wpAnyF P md ops Q S z fuel (listed.setIfInBounds i true) a' w') a w
theorem wpAny_of_F:∀ (fuel:Nat) (listed:Array Bool) (a:Act) (w:World),wpAnyF P md ops Q S z fuel listed a w→wpAny P md ops Q fuel listed a w
 | 0,_,_,_,h=>h
 | fuel+1,_,_,_,h=>⟨h.1,fun i hi=>wpOp_mono (fun a' w' h'=>wpAny_of_F fuel _ a' w' h'.2) (h.2 i hi)⟩
theorem getD_two {listed:Array Bool} {i:Nat} (h0:listed.getD i true=false) (h1:listed.getD i false=true):False:=by
 rcases Nat.lt_or_ge i listed.size with h' | h'
 ·simp[h'] at h0 h1;rw[h0] at h1;cases h1
 ·simp[Array.getElem?_eq_none h'] at h1
theorem wpAnyF_first {i:Nat} {oi:Oper} {v:Value} (hi:ops[i]?=some oi) (hsel:∀ (j:Nat) (o:Oper) cs b,ops[j]?=some o→o.op≠.select cs b)
  (hQ:∀ c a w,Q (.panic c) (a.put oi.dst v) w→Q (.panic c) a w) (hz:waitsOn md ops z i=true) :
  ∀ (fuel:Nat) (listed:Array Bool) (a:Act) (w:World),
   (∀ j oj,ops[j]?=some oj→j≠i→listed.getD j true=false→(∀ e∈oj.after,Region.binds md e=true→e.on≠i)→oi.apart ops oj=true) →
   i∈Region.ready md ops listed→YieldsIf P ops S oi v a→S w →
   wpAnyF P md ops Q S z fuel (listed.setIfInBounds i true) (a.put oi.dst v) w→wpAnyF P md ops Q S z (fuel+1) listed a w:=by
 intro fuel
 induction fuel with
 | zero=>
  intro listed a w _ hr hy hS H
  refine⟨fun h=>(by rw[h] at hr;cases hr),fun j hj=>?_⟩
  by_cases hji:j=i
  ·subst hji;exact hy.wpOp hi hS ⟨fun _=>hS,H⟩
  ·have:=ready_mono hj hji
   rw[H.1] at this
   cases this
 | succ fuel ih=>
  intro listed a w hfree hr hy hS H
  refine⟨fun h=>(by rw[h] at hr;cases hr),fun j hj=>?_⟩
  by_cases hji:j=i
  ·subst hji;exact hy.wpOp hi hS ⟨fun _=>hS,H⟩
  ·have h1:=H.2 j (ready_mono hj hji)
   obtain⟨hjun,oj,hoj,hall⟩:=mem_ready.1 hj
   have hjz:j≠z:=fun e=>by
    subst e
    exact getD_two (mem_ready.1 hr).1 (waitsOn_spec hz hj)
   have hnot:∀ e∈oj.after,Region.binds md e=true→e.on≠i:=fun e he hb heq=>by
    have h1:=hall e he hb
    rw[heq] at h1
    exact getD_two (mem_ready.1 hr).1 h1
   have h2:=wpOp_putIf hoj (hfree j oj hoj hji hjun hnot) (fun cs b=>hsel i oi cs b hi) (fun cs b=>hsel j oj cs b hoj) hQ hy h1
   have hfree':∀ k ok,ops[k]?=some ok→k≠i→(listed.setIfInBounds j true).getD k true=false →
     (∀ e∈ok.after,Region.binds md e=true→e.on≠i)→oi.apart ops ok=true:=fun k ok hk hki hun hno=>by
    refine hfree k ok hk hki ?_ hno
    by_cases hjk:j=k
    ·subst hjk;exact hjun
    ·rw[getD_set_ne true hjk] at hun;exact hun
   refine wpOp_mono (fun a' w' h3=>⟨fun hne=>h3.2.1 hne,ih (listed.setIfInBounds j true) a' w' hfree' (ready_mono hr (Ne.symm hji)) h3.1 (h3.2.1 hjz) ?_⟩) h2
   rw[Array.setIfInBounds_comm _ _ hji]
   exact h3.2.2
def chainB (md:Region.Mode) (ops:Array Oper):Nat→List Nat→Bool
 | _,[]=>true
 | a,b::l=>waitsOn md ops a b && chainB md ops b l
theorem chain_not {listed:Array Bool} {i j:Nat}:∀ {a:Nat} {path:List Nat},chainB md ops a path=true→(a::path).getLast?=some i→(∀ q∈path,listed.getD q true=false)→j∈Region.ready md ops listed→j≠i→∀ q∈a::path,j≠q
 | a,[],_,hl,_,_,hne,q,hq=>by
  simp at hl hq
  subst hl hq
  exact hne
 | a,b::l,hc,hl,hun,hj,hne,q,hq=>by
  rw[chainB,Bool.and_eq_true] at hc
  rcases List.mem_cons.1 hq with rfl | hq
  ·intro e
   subst e
   exact getD_two (hun b (List.mem_cons_self)) (waitsOn_spec hc.1 hj)
  ·exact chain_not hc.2 (by simpa using hl) (fun q hq=>hun q (List.mem_cons_of_mem _ hq)) hj hne q hq
theorem wpAnyF_firstC {i:Nat} {oi:Oper} {v:Value} (hi:ops[i]?=some oi) (hsel:∀ (j:Nat) (o:Oper) cs b,ops[j]?=some o→o.op≠.select cs b)
  (hQ:∀ c a w,Q (.panic c) (a.put oi.dst v) w→Q (.panic c) a w) {path:List Nat} (hch:chainB md ops z path=true) (hlast:(z::path).getLast?=some i) (hzi:z≠i) :
  ∀ (fuel:Nat) (listed:Array Bool) (a:Act) (w:World),
   (∀ j oj,ops[j]?=some oj→j≠i→listed.getD j true=false→(∀ e∈oj.after,Region.binds md e=true→e.on≠i)→oi.apart ops oj=true) →
   i∈Region.ready md ops listed→YieldsIf P ops S oi v a→S w→(∀ q∈path,listed.getD q true=false) →
   wpAnyF P md ops Q S z fuel (listed.setIfInBounds i true) (a.put oi.dst v) w→wpAnyF P md ops Q S z (fuel+1) listed a w:=by
 intro fuel
 induction fuel with
 | zero=>
  intro listed a w _ hr hy hS hun H
  refine⟨fun h=>(by rw[h] at hr;cases hr),fun j hj=>?_⟩
  by_cases hji:j=i
  ·subst hji;exact hy.wpOp hi hS ⟨fun _=>hS,H⟩
  ·have:=ready_mono hj hji
   rw[H.1] at this
   cases this
 | succ fuel ih=>
  intro listed a w hfree hr hy hS hun H
  refine⟨fun h=>(by rw[h] at hr;cases hr),fun j hj=>?_⟩
  by_cases hji:j=i
  ·subst hji;exact hy.wpOp hi hS ⟨fun _=>hS,H⟩
  ·have h1:=H.2 j (ready_mono hj hji)
   obtain⟨hjun,oj,hoj,hall⟩:=mem_ready.1 hj
   have hjp:∀ q∈z::path,j≠q:=chain_not hch hlast hun hj hji
   have hjz:j≠z:=hjp z (List.mem_cons_self)
   have hun':∀ q∈path,(listed.setIfInBounds j true).getD q true=false:=fun q hq=>by
    rw[getD_set_ne true (hjp q (List.mem_cons_of_mem _ hq))];exact hun q hq
   have hnot:∀ e∈oj.after,Region.binds md e=true→e.on≠i:=fun e he hb heq=>by
    have h1:=hall e he hb
    rw[heq] at h1
    exact getD_two (mem_ready.1 hr).1 h1
   have h2:=wpOp_putIf hoj (hfree j oj hoj hji hjun hnot) (fun cs b=>hsel i oi cs b hi) (fun cs b=>hsel j oj cs b hoj) hQ hy h1
   have hfree':∀ k ok,ops[k]?=some ok→k≠i→(listed.setIfInBounds j true).getD k true=false →
     (∀ e∈ok.after,Region.binds md e=true→e.on≠i)→oi.apart ops ok=true:=fun k ok hk hki hun hno=>by
    refine hfree k ok hk hki ?_ hno
    by_cases hjk:j=k
    ·subst hjk;exact hjun
    ·rw[getD_set_ne true hjk] at hun;exact hun
   refine wpOp_mono (fun a' w' h3=>⟨fun hne=>h3.2.1 hne,ih (listed.setIfInBounds j true) a' w' hfree' (ready_mono hr (Ne.symm hji)) h3.1 (h3.2.1 hjz) hun' ?_⟩) h2
   rw[Array.setIfInBounds_comm _ _ hji]
   exact h3.2.2
theorem wpAnyF_take (i:Nat) {oi:Oper} {v:Value} {fuel:Nat} {listed:Array Bool} {a:Act} {w:World} (hi:ops[i]?=some oi)
  (hs:Region.noSelect ops=true) (hw:waitsOn md ops z i=true) (hf:Region.free md ops listed i=true) (hr:(Region.ready md ops listed).contains i=true)
  (hQ:∀ c a w,Q (.panic c) (a.put oi.dst v) w→Q (.panic c) a w) (hg:Region.wanted oi (yielded ops a.tmps)=true) (hy:∀ w,S w→(execOp a.eval oi).run P w=.ok (.value v) w) (hS:S w)
  (h:wpAnyF P md ops Q S z fuel (listed.setIfInBounds i true) (a.put oi.dst v) w):wpAnyF P md ops Q S z (fuel+1) listed a w:=
 wpAnyF_first hi (Region.noSelect_spec hs) hQ hw fuel listed a w (Region.free_spec hi hf) (by simpa using hr) (Or.inl ⟨hg,hy⟩) hS h
def ReadyF (P:Program) (md:Region.Mode) (ops:Array Oper) (Q:Exit→Act→World→Prop) (S:World→Prop) (z:Nat) (fuel:Nat) (listed:Array Bool) (a:Act) (w:World) (rs:List Nat):Prop:=
 ∀ i∈rs,wpOp P ops Q i (fun a' w'=>(i≠z→S w')∧wpAnyF P md ops Q S z fuel (listed.setIfInBounds i true) a' w') a w
theorem ReadyF.nil {fuel:Nat} {listed:Array Bool} {a:Act} {w:World}:ReadyF P md ops Q S z fuel listed a w []:=fun _ h=>by cases h
theorem ReadyF.cons {fuel:Nat} {listed:Array Bool} {a:Act} {w:World} {i:Nat} {o:Oper} {rs:List Nat} (ho:ops[i]?=some o)
  (h:∀ K':Act→World→Prop,Shut (∀ a w,(i≠z→S w)→wpAnyF P md ops Q S z fuel (listed.setIfInBounds i true) a w→K' a w)→if Region.wanted o (yielded ops a.tmps)=true then Oper.wp P o a w K' Q else K' (a.put o.dst undef) w)
  (hs:ReadyF P md ops Q S z fuel listed a w rs):ReadyF P md ops Q S z fuel listed a w (i::rs):=fun j hj=>by
 rcases List.mem_cons.1 hj with rfl | hj
 ·exact wpOp_step ho (fun K' hK=>h K' (fun a w hS hW=>hK a w ⟨hS,hW⟩))
 ·exact hs j hj
theorem wpAnyF_ready (rs:List Nat) {fuel:Nat} {listed:Array Bool} {a:Act} {w:World} (hr:Region.ready md ops listed=rs) (hne:rs≠[])
  (h:ReadyF P md ops Q S z fuel listed a w rs):wpAnyF P md ops Q S z (fuel+1) listed a w:=
 ⟨fun h0=>absurd (hr ▸ h0) hne,hr ▸ h⟩
theorem wpAnyF_done {listed:Array Bool} {a:Act} {w:World} (hr:Region.ready md ops listed=[]) (h:Q .normal a w) :
  ∀ fuel,wpAnyF P md ops Q S z fuel listed a w
 | 0=>⟨hr,h⟩
 | _+1=>⟨fun _=>h,by rw[hr];simp⟩
theorem wpAnyF_takeL {l:List Oper} {S:World→Prop} {z:Nat} (i:Nat) {oi:Oper} {v:Value} {fuel:Nat} {listed:Array Bool} {a:Act} {w:World} (hi:l[i]?=some oi)
  (hs:Region.noSelect l.toArray=true) (hw:waitsOn md l.toArray z i=true) (hf:Region.free md l.toArray listed i=true) (hr:(Region.ready md l.toArray listed).contains i=true)
  (hQ:∀ c a w,Q (.panic c) (a.put oi.dst v) w→Q (.panic c) a w) (hg:Region.wanted oi (yielded l.toArray a.tmps)=true) (hy:∀ w,S w→(execOp a.eval oi).run P w=.ok (.value v) w) (hS:S w)
  (h:wpAnyF P md l.toArray Q S z fuel (listed.setIfInBounds i true) (a.put oi.dst v) w):wpAnyF P md l.toArray Q S z (fuel+1) listed a w:=
 wpAnyF_take i (by simpa using hi) hs hw hf hr hQ hg hy hS h
theorem ReadyF.consL {l:List Oper} {S:World→Prop} {z:Nat} {fuel:Nat} {listed:Array Bool} {a:Act} {w:World} {i:Nat} {o:Oper} {rs:List Nat} (ho:l[i]?=some o)
  (h:∀ K':Act→World→Prop,Shut (∀ a w,(i≠z→S w)→wpAnyF P md l.toArray Q S z fuel (listed.setIfInBounds i true) a w→K' a w)→if Region.wanted o (yielded l.toArray a.tmps)=true then Oper.wp P o a w K' Q else K' (a.put o.dst undef) w)
  (hs:ReadyF P md l.toArray Q S z fuel listed a w rs):ReadyF P md l.toArray Q S z fuel listed a w (i::rs):=ReadyF.cons (by simpa using ho) h hs
theorem wpAnyF_takeC {l:List Oper} {S:World→Prop} {z:Nat} (path:List Nat) (i:Nat) {oi:Oper} {v:Value} {fuel:Nat} {listed:Array Bool} {a:Act} {w:World} (hi:l[i]?=some oi)
  (hs:Region.noSelect l.toArray=true) (hch:chainB md l.toArray z path=true) (hlast:(z::path).getLast?=some i) (hzi:z≠i) (hun:(path.all fun q=>!listed.getD q true)=true) (hf:Region.free md l.toArray listed i=true) (hr:(Region.ready md l.toArray listed).contains i=true)
  (hQ:∀ c a w,Q (.panic c) (a.put oi.dst v) w→Q (.panic c) a w) (hg:Region.wanted oi (yielded l.toArray a.tmps)=true) (hy:∀ w,S w→(execOp a.eval oi).run P w=.ok (.value v) w) (hS:S w)
  (h:wpAnyF P md l.toArray Q S z fuel (listed.setIfInBounds i true) (a.put oi.dst v) w):wpAnyF P md l.toArray Q S z (fuel+1) listed a w:=
 wpAnyF_firstC (by simpa using hi) (Region.noSelect_spec hs) hQ hch hlast hzi fuel listed a w (Region.free_spec (by simpa using hi) hf) (by simpa using hr) (Or.inl ⟨hg,hy⟩) hS (fun q hq=>by
  have:=List.all_eq_true.1 hun q hq
  simpa using this) h
theorem wpAnyF_takeY {l:List Oper} {S:World→Prop} {z:Nat} (i:Nat) {oi:Oper} {v:Value} {fuel:Nat} {listed:Array Bool} {a:Act} {w:World} (hi:l[i]?=some oi)
  (hs:Region.noSelect l.toArray=true) (hw:waitsOn md l.toArray z i=true) (hf:Region.free md l.toArray listed i=true) (hr:(Region.ready md l.toArray listed).contains i=true)
  (hQ:∀ c a w,Q (.panic c) (a.put oi.dst v) w→Q (.panic c) a w) (hy:YieldsIf P l.toArray S oi v a) (hS:S w)
  (h:wpAnyF P md l.toArray Q S z fuel (listed.setIfInBounds i true) (a.put oi.dst v) w):wpAnyF P md l.toArray Q S z (fuel+1) listed a w:=
 wpAnyF_first (by simpa using hi) (Region.noSelect_spec hs) hQ hw fuel listed a w (Region.free_spec (by simpa using hi) hf) (by simpa using hr) hy hS h
theorem hfTake {l : List Oper} {S : World → Prop} {z : Nat} (i : Nat) {oi : Oper} {v : Value} {fuel : Nat} {listed : Array Bool} {a : Act} {w : World} (hy : ∀ w, S w → (execOp a.eval oi).run P w = .ok (.value v) w) (hS : S w)
 (h : wpAnyF P md l.toArray Q S z fuel (listed.setIfInBounds i true) (a.put oi.dst v) w) (hi : l[i]? = some oi := by rfl)
 (hb : (Region.noSelect l.toArray && waitsOn md l.toArray z i && Region.free md l.toArray listed i && (Region.ready md l.toArray listed).contains i) = true := by kernel_rfl)
 (hQ : ∀ c a w, Q (.panic c) (a.put oi.dst v) w → Q (.panic c) a w := by exact fun _ _ _ h => h) (hg : Region.wanted oi (yielded l.toArray a.tmps) = true := by rfl) : wpAnyF P md l.toArray Q S z (fuel + 1) listed a w := by
 simp only [Bool.and_eq_true] at hb
 exact wpAnyF_takeL i hi hb.1.1.1 hb.1.1.2 hb.1.2 hb.2 hQ hg hy hS h
theorem hfRdy {l : List Oper} {S : World → Prop} {z : Nat} {fuel : Nat} {listed : Array Bool} {a : Act} {w : World} (i : Nat) {o : Oper} (hr : Region.ready md l.toArray listed = [i]) (ho : l[i]? = some o)
 (h : ∀ K' : Act → World → Prop, Shut (∀ a w, (i ≠ z → S w) → wpAnyF P md l.toArray Q S z fuel (listed.setIfInBounds i true) a w → K' a w) → if Region.wanted o (yielded l.toArray a.tmps) = true then Oper.wp P o a w K' Q else K' (a.put o.dst undef) w) : wpAnyF P md l.toArray Q S z (fuel + 1) listed a w :=
 wpAnyF_ready [i] hr (by simp) (ReadyF.consL ho h ReadyF.nil)
theorem wp_region_F (S:World→Prop) (z:Nat) {id:Nat} {a:Act} {w:World} (hm:P.follows .mixedOrders=true)
  (h:wpAnyF P .any ops Q S z ops.size (Array.replicate ops.size false) a w.drew):(Code.region id ops true).wp P Q a w:=
 wp_region_any hm (wpAny_of_F _ _ _ _ h)
end
end Go.Proofs.YtceflhffilldeaaGreat
