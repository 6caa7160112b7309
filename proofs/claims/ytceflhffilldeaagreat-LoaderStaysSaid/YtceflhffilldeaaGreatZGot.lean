/-
  Joined: ZGot.
-/
import Derived.Test.YtceflhffilldeaaGreatZWake
set_option linter.unusedVariables false
set_option linter.unusedSimpArgs false
set_option maxRecDepth 100000
set_option maxHeartbeats 16000000
namespace Go.Proofs.YtceflhffilldeaaGreat
open Go.RowKit Go.Maps Go.WideMaps Plays ObjL Ldr
theorem got_is {D:DataW Unit} {N T:List BA} (h:Rel D N T) (s:BA) (hs:nameOk s=true):D.atKey (fkey s) (text ⟨#[]⟩)=text (gotN N T s).1∧has D (fkey s)=(gotN N T s).2:=by
 cases hp:(plc s N).2
 ·have hD:=h.del_none s hs hp
  have e:gotN N T s=(⟨#[]⟩,false):=by unfold gotN;rw[hp];rfl
  rw[e]
  exact⟨atKey_of_not_has hD _,hD⟩
 ·obtain⟨i1,i2⟩:=plc_there s N h.sorted hp
  have hm:=(plc_mem s N h.sorted).1 hp
  have iT:(plc s N).1<T.length:=by rw[← h.len];exact i1
  have e1:N[(plc s N).1]?=some s:=by
   rw[List.getD_eq_getElem?_getD,List.getElem?_eq_getElem i1] at i2
   rw[List.getElem?_eq_getElem i1]
   simpa using i2
  have e:gotN N T s=(T.getD (plc s N).1 ⟨#[]⟩,true):=by unfold gotN;rw[hp];rfl
  rw[e]
  exact⟨h.get (plc s N).1 s (T.getD (plc s N).1 ⟨#[]⟩) e1 (by simp[List.getD,iT]),(h.has_ s hs).2 hm⟩
theorem got_bad {D:DataW Unit} {N T:List BA} (h:Rel D N T) (s:BA) (hs:nameOk s=false):gotN N T s=(⟨#[]⟩,false):=by
 unfold gotN
 rw[plc_bad h s hs]
 rfl
theorem got_put_same {D:DataW Unit} {N T:List BA} (h:Rel D N T) (s t:BA) (hs:nameOk s=true) (ht:t.size≤131072) (hl:N.length<64):gotN (putN N T s t).2.1 (putN N T s t).2.2 s=(t,true):=by
 have h':=(put_same h s t).2
 have e:(putD D s t).2=D.put (fkey s) (text t):=by
  unfold putD
  rw[if_neg (by rw[hs];decide),if_neg (by omega),if_neg (fun c=>by have:=c.2;rw[h.size] at this;omega)]
 rw[e] at h'
 obtain⟨g1,g2⟩:=got_is h' s hs
 rw[atKey_put_same h.isMap (fkey_key s)] at g1
 rw[has_put_same h.isMap (fkey_key s)] at g2
 exact Prod.ext (text_inj g1).symm g2.symm
theorem got_put_other {D:DataW Unit} {N T:List BA} (h:Rel D N T) (s t x:BA) (hx:x≠s):gotN (putN N T s t).2.1 (putN N T s t).2.2 x=gotN N T x:=by
 have h':=(put_same h s t).2
 cases hn:nameOk x with
 | false=>rw[got_bad h x hn,got_bad h' x hn]
 | true=>
  obtain⟨a1,a2⟩:=got_is h x hn
  obtain⟨b1,b2⟩:=got_is h' x hn
  have key:(putD D s t).2.atKey (fkey x) (text ⟨#[]⟩)=D.atKey (fkey x) (text ⟨#[]⟩)∧has (putD D s t).2 (fkey x)=has D (fkey x):=by
   unfold putD
   split
   ·exact⟨rfl,rfl⟩
   ·rename_i hs
    have hs':nameOk s=true:=by simpa using hs
    split
    ·exact⟨rfl,rfl⟩
    ·split
     ·exact⟨rfl,rfl⟩
     ·exact⟨atKey_put_other (fkey_ne hn hs' hx) _ _,has_put_other (fkey_ne hn hs' hx) _⟩
  rw[key.1,a1] at b1
  rw[key.2,a2] at b2
  exact Prod.ext (text_inj b1).symm b2.symm
theorem storeG_same {D:DataW Unit} {N T:List BA} (h:Rel D N T) (s t:BA) (nm:List UInt8) (e:txt nm=s) (hs:nameOk s=true) (ht:t.size≤131072) (hl:N.length<64):storeG (putN N T s t).2.1 (putN N T s t).2.2 nm=some t.data.toList:=by
 unfold storeG
 rw[e,got_put_same h s t hs ht hl,if_pos rfl]
theorem storeG_other {D:DataW Unit} {N T:List BA} (h:Rel D N T) (s t:BA) (nm:List UInt8) (e:txt nm≠s):storeG (putN N T s t).2.1 (putN N T s t).2.2 nm=storeG N T nm:=by
 unfold storeG
 rw[got_put_other h s t (txt nm) e]
end Go.Proofs.YtceflhffilldeaaGreat
