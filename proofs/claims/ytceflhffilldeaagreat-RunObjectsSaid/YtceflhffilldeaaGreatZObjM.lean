/-
  Joined: ZObjM.
-/
import Derived.Test.YtceflhffilldeaaGreatZKept
set_option linter.unusedVariables false
set_option linter.unusedSimpArgs false
set_option maxRecDepth 100000
set_option maxHeartbeats 16000000
namespace Go.Proofs.YtceflhffilldeaaGreat
namespace ObjL
def fits (n:Int):Bool:=decide (-2147483648≤n) && decide (n<2147483648)
def small (n:Int):Bool:=decide (-64≤n) && decide (n<64)
def byte (n:Int):UInt8:=UInt8.ofNat (n % 256).toNat
def numF:Nat→Int→List UInt8
 | 0,n=>[byte (n % 128)]
 | f+1,n=>if small n=true then [byte (n % 128)] else byte (n % 128+128)::numF f (n / 128)
def numB (n:Int):List UInt8:=numF 5 n
def grp:Nat→List UInt8→Option (Int×Nat)
 | 0,_=>none
 | _+1,[]=>none
 | f+1,c::r=>if c.toNat<128 then some (if c.toNat<64 then (c.toNat:Int) else (c.toNat:Int)-128,1)
  else match grp f r with
   | some (v,k)=>some ((c.toNat:Int)-128+128*v,k+1)
   | none=>none
def rNum (s:List UInt8):Option (Int×List UInt8):=
 match grp 5 s with
 | some (v,k)=>if fits v=true∧(numB v).length=k then some (v,s.drop k) else none
 | none=>none
theorem byte_toNat (n:Int):((byte n).toNat:Int)=n % 256:=by
 unfold byte
 rw[UInt8.toNat_ofNat']
 have h1:=Int.emod_nonneg n (show (256:Int)≠0 by decide)
 have h2:=Int.emod_lt_of_pos n (show (0:Int)<256 by decide)
 omega
theorem byte_inj {c:UInt8} {n:Int} (h:(c.toNat:Int)=n % 256):byte n=c:=by
 apply UInt8.toNat_inj.1
 have:=byte_toNat n
 omega
theorem numF_len (f:Nat) (n:Int):1≤(numF f n).length∧(numF f n).length≤f+1:=by
 induction f generalizing n with
 | zero=>simp[numF]
 | succ f ih=>
  rw[numF]
  split
  ·simp
  ·have:=ih (n / 128);simp only[List.length_cons];omega
theorem grp_len:∀ (f:Nat) (s:List UInt8) (v:Int) (k:Nat),grp f s=some (v,k)→1≤k∧k≤s.length∧k≤f
 | 0,_,_,_,h=>by cases h
 | _+1,[],_,_,h=>by cases h
 | f+1,c::r,v,k,h=>by
  rw[grp] at h
  split at h
  ·injection h with h
   injection h with _ h
   subst h;simp
  ·split at h
   ·rename_i v' k' h'
    injection h with h
    injection h with _ h
    subst h
    have:=grp_len f r v' k' h'
    simp only[List.length_cons];omega
   ·cases h
theorem grp_back:∀ (f:Nat) (s:List UInt8) (v:Int) (k:Nat),grp f s=some (v,k)→(numF f v).length=k→s.take k=numF f v
 | 0,_,_,_,h,_=>by cases h
 | _+1,[],_,_,h,_=>by cases h
 | f+1,c::r,v,k,h,hl=>by
  rw[grp] at h
  have hc:c.toNat<256:=c.toNat_lt
  split at h
  ·rename_i h1
   injection h with h
   injection h with hv hk
   subst hk
   have hsm:small v=true:=by
    unfold small
    rw[← hv]
    split<;>simp<;>omega
   rw[numF,if_pos hsm,List.take_succ_cons,List.take_zero]
   congr 1
   refine(byte_inj ?_).symm
   rw[← hv]
   split<;>omega
  ·rename_i h1
   split at h
   ·rename_i v' k' h'
    injection h with h
    injection h with hv hk
    subst hk
    have h2:=grp_len f r v' k' h'
    have hns:¬ small v=true:=by
     intro hs
     rw[numF,if_pos hs] at hl
     simp at hl
     omega
    rw[numF,if_neg hns] at hl ⊢
    have hd:v / 128=v':=by omega
    rw[hd] at hl ⊢
    have:=grp_back f r v' k' h' (by simpa using hl)
    rw[List.take_succ_cons,this]
    congr 1
    refine(byte_inj ?_).symm
    omega
   ·cases h
def wide7:Nat→Int
 | 0=>1
 | f+1=>128*wide7 f
theorem wide7_pos:∀ f,0<wide7 f
 | 0=>by simp[wide7]
 | f+1=>by have:=wide7_pos f;simp only[wide7];omega
theorem grp_of:∀ (f:Nat) (n:Int) (r:List UInt8),-(64*wide7 f)≤n→n<64*wide7 f→grp (f+1) (numF f n++r)=some (n,(numF f n).length)
 | 0,n,r,h1,h2=>by
  simp only[wide7] at h1 h2
  have e:=byte_toNat (n % 128)
  have hb:(byte (n % 128)).toNat<128:=by omega
  rw[numF,List.cons_append,grp,if_pos hb,List.length_singleton]
  congr 2
  split<;>omega
 | f+1,n,r,h1,h2=>by
  simp only[wide7] at h1 h2
  rw[numF]
  split
  ·rename_i hs
   unfold small at hs
   simp only[Bool.and_eq_true,decide_eq_true_eq] at hs
   have e:=byte_toNat (n % 128)
   have hb:(byte (n % 128)).toNat<128:=by omega
   rw[List.cons_append,grp,if_pos hb,List.length_singleton]
   congr 2
   split<;>omega
  ·have e:=byte_toNat (n % 128+128)
   have hb:¬ (byte (n % 128+128)).toNat<128:=by omega
   have ih:=grp_of f (n / 128) r (by omega) (by omega)
   rw[List.cons_append,grp,if_neg hb,ih]
   simp only[List.length_cons]
   congr 2
   omega
theorem numF_more:∀ (f:Nat) (n:Int),-(64*wide7 f)≤n→n<64*wide7 f→numF (f+1) n=numF f n
 | 0,n,h1,h2=>by
  simp only[wide7] at h1 h2
  have hs:small n=true:=by unfold small;simp;omega
  show numF 1 n=numF 0 n
  simp[numF,hs]
 | f+1,n,h1,h2=>by
  simp only[wide7] at h1 h2
  rw[numF]
  conv=>rhs;rw[numF]
  split
  ·rfl
  ·rw[numF_more f (n / 128) (by omega) (by omega)]
theorem rNum_of (n:Int) (r:List UInt8) (h:fits n=true):rNum (numB n++r)=some (n,r):=by
 unfold fits at h
 simp only[Bool.and_eq_true,decide_eq_true_eq] at h
 have e:numB n=numF 4 n:=numF_more 4 n (by simp only[wide7];omega) (by simp only[wide7];omega)
 have hg:=grp_of 4 n r (by simp only[wide7];omega) (by simp only[wide7];omega)
 unfold rNum
 rw[e,hg]
 have hf:fits n=true:=by unfold fits;simp;omega
 simp only[hf,e,and_self,if_true,List.drop_left]
theorem rNum_back {s r:List UInt8} {n:Int} (h:rNum s=some (n,r)):s=numB n++r∧fits n=true:=by
 unfold rNum at h
 split at h
 ·rename_i v k hg
  split at h
  ·rename_i hc
   injection h with h
   injection h with h1 h2
   subst h1 h2
   have:=grp_back 5 s v k hg hc.2
   refine⟨?_,hc.1⟩
   show s=numF 5 v++s.drop k
   rw[← this,List.take_append_drop]
  ·cases h
 ·cases h
def rText (s:List UInt8):Option (List UInt8×List UInt8):=
 match s.findIdx? (·==0) with
 | some n=>if n≤64 then some (s.take n,s.drop (n+1)) else none
 | none=>none
def textB (t:List UInt8):List UInt8:=t++[0]
def textOk (t:List UInt8):Bool:=decide (t.length≤64) && !t.contains 0
theorem rText_of (t r:List UInt8) (h:textOk t=true):rText (textB t++r)=some (t,r):=by
 unfold textOk at h
 simp only[Bool.and_eq_true,decide_eq_true_eq,Bool.not_eq_true'] at h
 unfold rText textB
 have e:(t++[0]++r).findIdx? (·==0)=some t.length:=by
  rw[List.append_assoc,List.findIdx?_append]
  have:t.findIdx? (·==0)=none:=by
   rw[List.findIdx?_eq_none_iff]
   intro x hx
   rw[beq_eq_false_iff_ne]
   intro hx0
   subst hx0
   have:=List.contains_iff_mem.2 hx
   rw[h.2] at this;cases this
  rw[this]
  simp[List.findIdx?_cons]
 rw[e]
 simp only[h.1,if_true,Option.some.injEq,Prod.mk.injEq]
 refine⟨?_,?_⟩
 ·rw[List.append_assoc,List.take_left]
 ·rw[List.append_assoc,← List.drop_drop,List.drop_left];rfl
theorem rText_back {s t r:List UInt8} (h:rText s=some (t,r)):s=textB t++r∧textOk t=true:=by
 unfold rText at h
 split at h
 ·rename_i n hn
  split at h
  ·rename_i h64
   injection h with h
   injection h with h1 h2
   subst h1 h2
   obtain⟨hlt,h0,hb⟩:=List.findIdx?_eq_some_iff_getElem.1 hn
   have h0':s[n]=0:=by simpa using h0
   refine⟨?_,?_⟩
   ·unfold textB
    rw[List.append_assoc]
    conv=>lhs;rw[← List.take_append_drop n s]
    rw[List.drop_eq_getElem_cons hlt,h0']
    rfl
   ·unfold textOk
    simp only[Bool.and_eq_true,decide_eq_true_eq,Bool.not_eq_true',List.length_take]
    refine⟨by omega,?_⟩
    cases hc:(s.take n).contains 0
    ·rfl
    ·have hm:=List.contains_iff_mem.1 hc
     obtain⟨j,hj,e⟩:=List.getElem_of_mem hm
     rw[List.length_take] at hj
     have:=hb j (by omega)
     rw[List.getElem_take] at e
     rw[e] at this
     simp at this
  ·cases h
 ·cases h
def wordB (x:Int):List UInt8:=[byte x,byte (x / 256),byte (x / 65536),byte (x / 16777216)]
def rWord:List UInt8→Option (Int×List UInt8)
 | a::b::c::d::r=>some ((a.toNat:Int)+256*b.toNat+65536*c.toNat+16777216*d.toNat,r)
 | _=>none
def word (x:Int):Bool:=decide (0≤x) && decide (x<4294967296)
theorem rWord_of (x:Int) (r:List UInt8) (h:word x=true):rWord (wordB x++r)=some (x,r):=by
 unfold word at h
 simp only[Bool.and_eq_true,decide_eq_true_eq] at h
 unfold wordB
 simp only[List.cons_append,List.nil_append,rWord]
 rw[byte_toNat,byte_toNat,byte_toNat,byte_toNat]
 congr 2
 omega
theorem rWord_back {s r:List UInt8} {x:Int} (h:rWord s=some (x,r)):s=wordB x++r∧word x=true:=by
 match s,h with
 | a::b::c::d::r',h=>
  rw[rWord] at h
  injection h with h
  injection h with h1 h2
  subst h1 h2
  have ha:=a.toNat_lt
  have hb:=b.toNat_lt
  have hc:=c.toNat_lt
  have hd:=d.toNat_lt
  refine⟨?_,?_⟩
  ·unfold wordB
   simp only[List.cons_append,List.nil_append]
   rw[byte_inj (c:=a) (by omega),byte_inj (c:=b) (by omega),byte_inj (c:=c) (by omega),byte_inj (c:=d) (by omega)]
  ·unfold word
   simp only[Bool.and_eq_true,decide_eq_true_eq]
   omega
def rRaw (n:Int) (s:List UInt8):Option (List UInt8×List UInt8):=if 0≤n∧n≤s.length then some (s.take n.toNat,s.drop n.toNat) else none
theorem rRaw_of (t r:List UInt8):rRaw t.length (t++r)=some (t,r):=by
 unfold rRaw
 rw[if_pos ⟨by omega,by rw[List.length_append];omega⟩]
 simp
theorem rRaw_back {n:Int} {s t r:List UInt8} (h:rRaw n s=some (t,r)):s=t++r∧(t.length:Int)=n:=by
 unfold rRaw at h
 split at h
 ·rename_i hn
  injection h with h
  injection h with h1 h2
  subst h1 h2
  exact⟨(List.take_append_drop _ _).symm,by rw[List.length_take];omega⟩
 ·cases h
def many {α:Type} (rd:List UInt8→Option (α×List UInt8)):Nat→List UInt8→Option (List α×List UInt8)
 | 0,s=>some ([],s)
 | n+1,s=>match rd s with
  | some (x,s1)=>match many rd n s1 with
   | some (l,s2)=>some (x::l,s2)
   | none=>none
  | none=>none
theorem many_of {α:Type} {rd:List UInt8→Option (α×List UInt8)} {wr:α→List UInt8}:∀ (l:List α) (r:List UInt8),(∀ x∈l,∀ r,rd (wr x++r)=some (x,r))→many rd l.length (l.flatMap wr++r)=some (l,r)
 | [],r,_=>rfl
 | x::l,r,h=>by
  simp only[List.length_cons,List.flatMap_cons,List.append_assoc,many]
  rw[h x (by simp)]
  dsimp only
  rw[many_of l r (fun y hy=>h y (by simp[hy]))]
theorem many_back {α:Type} {rd:List UInt8→Option (α×List UInt8)} {wr:α→List UInt8}:∀ (n:Nat) (s r:List UInt8) (l:List α),(∀ s x r,rd s=some (x,r)→s=wr x++r)→many rd n s=some (l,r)→s=l.flatMap wr++r∧l.length=n
 | 0,s,r,l,_,h=>by
  rw[many] at h
  injection h with h
  injection h with h1 h2
  subst h1 h2
  exact⟨rfl,rfl⟩
 | n+1,s,r,l,hrd,h=>by
  rw[many] at h
  split at h
  ·rename_i x s1 hx
   split at h
   ·rename_i l' s2 hl
    injection h with h
    injection h with h1 h2
    subst h1 h2
    obtain⟨e1,e2⟩:=many_back n s1 s2 l' hrd hl
    exact⟨by rw[hrd s x s1 hx,e1,List.flatMap_cons,List.append_assoc],by simp[e2]⟩
   ·cases h
  ·cases h
theorem many_imp {α:Type} {rd rd':List UInt8→Option (α×List UInt8)} (hi:∀ s x,rd s=some x→rd' s=some x):∀ (n:Nat) (s:List UInt8) (x:List α×List UInt8),many rd n s=some x→many rd' n s=some x
 | 0,s,x,h=>h
 | n+1,s,x,h=>by
  rw[many] at h ⊢
  split at h
  ·rename_i y s1 hx
   rw[hi s _ hx]
   dsimp only
   split at h
   ·rename_i l' s2 hl
    rw[many_imp hi n s1 _ hl]
    exact h
   ·cases h
  ·cases h
end ObjL
end Go.Proofs.YtceflhffilldeaaGreat
namespace Go.Proofs.YtceflhffilldeaaGreat
namespace ObjL
structure Ob where
 name:List UInt8
 key:Int
 uses:List (List UInt8×Int)
 descs:List (Int×List (Int×Int))
 data:Int
 strings:List UInt8
 code:List Int
 entries:List Int
 calls:Int
 places:Int
def head:List UInt8:=[83,80,79,66]
def useB (u:List UInt8×Int):List UInt8:=textB u.1++wordB u.2
def extB (e:Int×Int):List UInt8:=numB e.1++numB e.2
def descB (d:Int×List (Int×Int)):List UInt8:=numB d.1++(numB d.2.length++d.2.flatMap extB)
def encO (o:Ob):List UInt8:=
 textB head++(textB o.name++(wordB o.key++(numB o.uses.length++(o.uses.flatMap useB++(numB o.descs.length++(o.descs.flatMap descB++(numB o.data++(numB o.strings.length++(o.strings ++
  (numB o.code.length++(o.code.flatMap wordB++(numB o.entries.length++(o.entries.flatMap numB++(numB o.calls++numB o.places))))))))))))))
def cnt (b:Bool) (lim:Int) (s:List UInt8):Option (Int×List UInt8):=
 match rNum s with
 | some (n,r)=>if b=true∧¬ (0≤n∧n≤lim) then none else some (n,r)
 | none=>none
def rUse (s:List UInt8):Option ((List UInt8×Int)×List UInt8):=(rText s).bind fun x=>(rWord x.2).bind fun y=>some ((x.1,y.1),y.2)
def rExt (s:List UInt8):Option ((Int×Int)×List UInt8):=(rNum s).bind fun x=>(rNum x.2).bind fun y=>some ((x.1,y.1),y.2)
def rDesc (b:Bool) (s:List UInt8):Option ((Int×List (Int×Int))×List UInt8):=(rNum s).bind fun x=>(cnt b 5 x.2).bind fun y=>(many rExt y.1.toNat y.2).bind fun z=>some ((x.1,z.1),z.2)
def parse (b:Bool) (s:List UInt8):Option (Ob×List UInt8):=
 (rText s).bind fun h=>if h.1=head then (rText h.2).bind fun nm=>(rWord nm.2).bind fun key=>
  (cnt b 16 key.2).bind fun nu=>(many rUse nu.1.toNat nu.2).bind fun us=>
  (cnt b 64 us.2).bind fun nd=>(many (rDesc b) nd.1.toNat nd.2).bind fun ds=>
  (rNum ds.2).bind fun da=>(cnt b 32768 da.2).bind fun ns=>(rRaw ns.1 ns.2).bind fun st=>
  (cnt b 8192 st.2).bind fun nc=>(many rWord nc.1.toNat nc.2).bind fun co=>
  (cnt b 64 co.2).bind fun ne=>(many rNum ne.1.toNat ne.2).bind fun en=>
  (rNum en.2).bind fun ca=>(rNum ca.2).bind fun pl=>
  some (⟨nm.1,key.1,us.1,ds.1,da.1,st.1,co.1,en.1,ca.1,pl.1⟩,pl.2) else none
structure WrOk (o:Ob):Prop where
 name:textOk o.name=true
 key:word o.key=true
 uses:o.uses.length≤16
 use:∀ u∈o.uses,textOk u.1=true∧word u.2=true
 descs:o.descs.length≤64
 desc:∀ d∈o.descs,fits d.1=true∧d.2.length≤5∧∀ e∈d.2,fits e.1=true∧fits e.2=true
 data:fits o.data=true
 strings:o.strings.length≤32768
 code:o.code.length≤8192
 words:∀ x∈o.code,word x=true
 entries:o.entries.length≤64
 entry:∀ x∈o.entries,fits x=true
 calls:fits o.calls=true
 places:fits o.places=true
theorem cnt_of (b:Bool) (lim:Int) (n:Nat) (r:List UInt8) (h:(n:Int)≤lim) (hl:lim≤1000000):cnt b lim (numB n++r)=some ((n:Int),r):=by
 unfold cnt
 rw[rNum_of n r (by unfold fits;simp;omega)]
 dsimp only
 rw[if_neg (fun hh=>hh.2 ⟨by omega,by omega⟩)]
theorem cnt_back {lim n:Int} {s r:List UInt8} (h:cnt true lim s=some (n,r)):s=numB n++r∧0≤n:=by
 unfold cnt at h
 split at h
 ·rename_i m r' hm
  split at h
  ·cases h
  ·rename_i hc
   injection h with h
   injection h with h1 h2
   subst h1 h2
   exact⟨(rNum_back hm).1,by
    rcases Int.lt_or_le m 0 with hneg | hpos
    ·exact absurd ⟨rfl,fun hh=>by omega⟩ hc
    ·exact hpos⟩
 ·cases h
theorem cnt_imp {lim:Int} {s:List UInt8} {x:Int×List UInt8} (h:cnt true lim s=some x):cnt false lim s=some x:=by
 unfold cnt at h ⊢
 split at h
 ·rename_i m r' hm
  split at h
  ·cases h
  ·rw[if_neg (by simp)];exact h
 ·cases h
theorem rUse_of (u:List UInt8×Int) (r:List UInt8) (h1:textOk u.1=true) (h2:word u.2=true):rUse (useB u++r)=some (u,r):=by
 unfold rUse useB
 rw[List.append_assoc,rText_of u.1 _ h1]
 dsimp only[Option.bind]
 rw[rWord_of u.2 _ h2]
theorem rUse_back (s:List UInt8) (u:List UInt8×Int) (r:List UInt8) (h:rUse s=some (u,r)):s=useB u++r:=by
 unfold rUse at h
 simp only[Option.bind_eq_some_iff] at h
 obtain⟨x,hx,y,hy,h⟩:=h
 injection h with h
 injection h with h1 h2
 subst h1 h2
 unfold useB
 rw[(rText_back hx).1,(rWord_back hy).1,List.append_assoc]
theorem rExt_of (e:Int×Int) (r:List UInt8) (h1:fits e.1=true) (h2:fits e.2=true):rExt (extB e++r)=some (e,r):=by
 unfold rExt extB
 rw[List.append_assoc,rNum_of e.1 _ h1]
 dsimp only[Option.bind]
 rw[rNum_of e.2 _ h2]
theorem rExt_back (s:List UInt8) (e:Int×Int) (r:List UInt8) (h:rExt s=some (e,r)):s=extB e++r:=by
 unfold rExt at h
 simp only[Option.bind_eq_some_iff] at h
 obtain⟨x,hx,y,hy,h⟩:=h
 injection h with h
 injection h with h1 h2
 subst h1 h2
 unfold extB
 rw[(rNum_back hx).1,(rNum_back hy).1,List.append_assoc]
theorem rDesc_of (b:Bool) (d:Int×List (Int×Int)) (r:List UInt8) (h1:fits d.1=true) (h2:d.2.length≤5) (h3:∀ e∈d.2,fits e.1=true∧fits e.2=true):rDesc b (descB d++r)=some (d,r):=by
 unfold rDesc descB
 rw[List.append_assoc,List.append_assoc,rNum_of d.1 _ h1]
 dsimp only[Option.bind]
 rw[cnt_of b 5 _ _ (by omega) (by decide)]
 dsimp only
 rw[Int.toNat_natCast,many_of (wr:=extB) d.2 r (fun e he r=>rExt_of e r (h3 e he).1 (h3 e he).2)]
theorem rDesc_back (s:List UInt8) (d:Int×List (Int×Int)) (r:List UInt8) (h:rDesc true s=some (d,r)):s=descB d++r:=by
 unfold rDesc at h
 simp only[Option.bind_eq_some_iff] at h
 obtain⟨x,hx,y,hy,z,hz,h⟩:=h
 injection h with h
 injection h with h1 h2
 subst h1 h2
 obtain⟨e1,e2⟩:=cnt_back hy
 obtain⟨e3,e4⟩:=many_back (wr:=extB) _ _ _ _ rExt_back hz
 unfold descB
 have e5:((z.1.length:Nat):Int)=y.1:=by omega
 rw[(rNum_back hx).1,e1,e3,e5]
 simp only[List.append_assoc]
theorem rDesc_imp (s:List UInt8) (x:(Int×List (Int×Int))×List UInt8) (h:rDesc true s=some x):rDesc false s=some x:=by
 unfold rDesc at h ⊢
 simp only[Option.bind_eq_some_iff] at h ⊢
 obtain⟨a,ha,b,hb,c,hc,h⟩:=h
 exact⟨a,ha,b,cnt_imp hb,c,hc,h⟩
theorem parse_of (b:Bool) (o:Ob) (r:List UInt8) (h:WrOk o):parse b (encO o++r)=some (o,r):=by
 unfold parse encO
 simp only[List.append_assoc]
 rw[rText_of head _ (by decide)]
 dsimp only[Option.bind]
 rw[if_pos rfl,rText_of o.name _ h.name]
 dsimp only
 rw[rWord_of o.key _ h.key]
 dsimp only
 rw[cnt_of b 16 _ _ (by have:=h.uses;omega) (by decide)]
 dsimp only
 rw[Int.toNat_natCast,many_of (wr:=useB) o.uses _ (fun u hu r=>rUse_of u r (h.use u hu).1 (h.use u hu).2)]
 dsimp only
 rw[cnt_of b 64 _ _ (by have:=h.descs;omega) (by decide)]
 dsimp only
 rw[Int.toNat_natCast,many_of (wr:=descB) o.descs _ (fun d hd r=>rDesc_of b d r (h.desc d hd).1 (h.desc d hd).2.1 (h.desc d hd).2.2)]
 dsimp only
 rw[rNum_of o.data _ h.data]
 dsimp only
 rw[cnt_of b 32768 _ _ (by have:=h.strings;omega) (by decide)]
 dsimp only
 rw[rRaw_of]
 dsimp only
 rw[cnt_of b 8192 _ _ (by have:=h.code;omega) (by decide)]
 dsimp only
 rw[Int.toNat_natCast,many_of (wr:=wordB) o.code _ (fun x hx r=>rWord_of x r (h.words x hx))]
 dsimp only
 rw[cnt_of b 64 _ _ (by have:=h.entries;omega) (by decide)]
 dsimp only
 rw[Int.toNat_natCast,many_of (wr:=numB) o.entries _ (fun x hx r=>rNum_of x r (h.entry x hx))]
 dsimp only
 rw[rNum_of o.calls _ h.calls]
 dsimp only
 rw[rNum_of o.places _ h.places]
theorem parse_back (s r:List UInt8) (o:Ob) (h:parse true s=some (o,r)):s=encO o++r:=by
 unfold parse at h
 simp only[Option.bind_eq_some_iff] at h
 obtain⟨hd,hhd,h⟩:=h
 split at h
 ·rename_i hh
  simp only[Option.bind_eq_some_iff] at h
  obtain⟨nm,hnm,key,hkey,nu,hnu,us,hus,nd,hnd,ds,hds,da,hda,ns,hns,st,hst,nc,hnc,co,hco,ne,hne,en,hen,ca,hca,pl,hpl,h⟩:=h
  injection h with h
  injection h with h1 h2
  subst h1 h2
  obtain⟨u1,u2⟩:=cnt_back hnu
  obtain⟨u3,u4⟩:=many_back (wr:=useB) _ _ _ _ rUse_back hus
  obtain⟨d1,d2⟩:=cnt_back hnd
  obtain⟨d3,d4⟩:=many_back (wr:=descB) _ _ _ _ rDesc_back hds
  obtain⟨s1,s2⟩:=cnt_back hns
  obtain⟨s3,s4⟩:=rRaw_back hst
  obtain⟨c1,c2⟩:=cnt_back hnc
  obtain⟨c3,c4⟩:=many_back (wr:=wordB) _ _ _ _ (fun s x r h=>(rWord_back h).1) hco
  obtain⟨e1,e2⟩:=cnt_back hne
  obtain⟨e3,e4⟩:=many_back (wr:=numB) _ _ _ _ (fun s x r h=>(rNum_back h).1) hen
  have q1:((us.1.length:Nat):Int)=nu.1:=by omega
  have q2:((ds.1.length:Nat):Int)=nd.1:=by omega
  have q3:((co.1.length:Nat):Int)=nc.1:=by omega
  have q4:((en.1.length:Nat):Int)=ne.1:=by omega
  unfold encO
  dsimp only
  rw[(rText_back hhd).1,hh,(rText_back hnm).1,(rWord_back hkey).1,u1,u3,d1,d3,(rNum_back hda).1,s1,s3,c1,c3,e1,e3,(rNum_back hca).1,(rNum_back hpl).1,q1,q2,q3,q4,s4]
  simp only[List.append_assoc]
 ·cases h
theorem parse_imp (s:List UInt8) (x:Ob×List UInt8) (h:parse true s=some x):parse false s=some x:=by
 unfold parse at h ⊢
 simp only[Option.bind_eq_some_iff] at h ⊢
 obtain⟨hd,hhd,h⟩:=h
 refine⟨hd,hhd,?_⟩
 split at h
 ·rename_i hh
  rw[if_pos hh]
  simp only[Option.bind_eq_some_iff] at h ⊢
  obtain⟨nm,hnm,key,hkey,nu,hnu,us,hus,nd,hnd,ds,hds,da,hda,ns,hns,st,hst,nc,hnc,co,hco,ne,hne,en,hen,ca,hca,pl,hpl,h⟩:=h
  exact⟨nm,hnm,key,hkey,nu,cnt_imp hnu,us,hus,nd,cnt_imp hnd,ds,many_imp rDesc_imp _ _ _ hds,da,hda,ns,cnt_imp hns,st,hst,nc,cnt_imp hnc,co,hco,ne,cnt_imp hne,en,hen,ca,hca,pl,hpl,h⟩
 ·cases h
def goodBytes (good:Ob→Bool) (s:List UInt8) (o:Ob):Prop:=s.length≤131072∧parse true s=some (o,[])∧good o=true
theorem decode_iff {good:Ob→Bool} (hg:∀ o,good o=true→WrOk o) (s:List UInt8) (o:Ob) :
  goodBytes good s o↔parse false s=some (o,[])∧good o=true∧(encO o).length≤131072∧encO o=s:=by
 constructor
 ·rintro⟨h1,h2,h3⟩
  have e:=parse_back s [] o h2
  rw[List.append_nil] at e
  exact⟨parse_imp s _ h2,h3,by rw[← e];exact h1,e.symm⟩
 ·rintro⟨h1,h2,h3,h4⟩
  have:=parse_of true o [] (hg o h2)
  rw[List.append_nil,h4] at this
  exact⟨by rw[← h4];exact h3,this,h2⟩
end ObjL
end Go.Proofs.YtceflhffilldeaaGreat
namespace Go.Proofs.YtceflhffilldeaaGreat
open Go.RowKit ObjL
def txt (l:List UInt8):ByteArray:=⟨l.toArray⟩
theorem txt_of (s:ByteArray):txt s.data.toList=s:=by simp[txt]
theorem txt_data (l:List UInt8):(txt l).data.toList=l:=by simp[txt]
theorem txt_size (l:List UInt8):(txt l).size=l.length:=by simp[txt,ByteArray.size]
theorem txt_inj {a b:List UInt8} (h:txt a=txt b):a=b:=by rw[← txt_data a,h,txt_data]
def RowOf {α:Type} (k:Nat) (is:World→α→Nat→Value→Prop) (w:World) (v:Value) (l:List α):Prop:=
 l.length≤9223372036854775807∧∃ A c,v=.slice A l.length c∧∀ i (hi:i<l.length),∃ ad,A=some ad∧ad.block<w.heap.size∧∀ j,j<k→∃ x,w.cell? ((ad.add (i*k)).add j)=some x∧is w l[i] j x
theorem RowOf.below {α:Type} {k:Nat} {is:World→α→Nat→Value→Prop} {w w':World} {v:Value} {l:List α} (h:RowOf k is w v l) (hb:Below w.heap.size w w') (hi:∀ x∈l,∀ j y,is w x j y→is w' x j y):RowOf k is w' v l:=by
 obtain⟨hm,A,c,rfl,hc⟩:=h
 refine⟨hm,A,c,rfl,fun i hlt=>?_⟩
 obtain⟨ad,rfl,hl,hx⟩:=hc i hlt
 refine⟨ad,rfl,Nat.lt_of_lt_of_le hl hb.size,fun j hj=>?_⟩
 obtain⟨x,h1,h2⟩:=hx j hj
 exact⟨x,(hb.cell (p:=(ad.add (i*k)).add j) (by rw[block_add,block_add];exact hl)).trans h1,hi _ (List.getElem_mem hlt) j x h2⟩
theorem RowOf.nil_ {α:Type} {k:Nat} {is:World→α→Nat→Value→Prop} {w:World}:RowOf k is w (.slice none 0 0) ([]:List α):=⟨by simp,none,0,rfl,fun i hi=>absurd hi (by simp)⟩
def useIs (w:World) (u:List UInt8×Int) (j:Nat) (x:Value):Prop:=(j=0→x=.string (txt u.1))∧(j=1→x=.int .u32 u.2)
def extIs (w:World) (e:Int×Int) (j:Nat) (x:Value):Prop:=(j=0→x=.int .i64 e.1)∧(j=1→x=.int .i64 e.2)
def ERow (w:World) (v:Value) (l:List (Int×Int)):Prop:=RowOf 2 extIs w v l
def descIs (w:World) (d:Int×List (Int×Int)) (j:Nat) (x:Value):Prop:=(j=0→x=.int .i64 d.1)∧(j=1→ERow w x d.2)
def URow (w:World) (v:Value) (l:List (List UInt8×Int)):Prop:=RowOf 2 useIs w v l
def DRow (w:World) (v:Value) (l:List (Int×List (Int×Int))):Prop:=RowOf 2 descIs w v l
theorem ERow.below {w w':World} {v:Value} {l:List (Int×Int)} (h:ERow w v l) (hb:Below w.heap.size w w'):ERow w' v l:=RowOf.below h hb fun x _ j y hy=>hy
theorem URow.below {w w':World} {v:Value} {l:List (List UInt8×Int)} (h:URow w v l) (hb:Below w.heap.size w w'):URow w' v l:=RowOf.below h hb fun x _ j y hy=>hy
theorem DRow.below {w w':World} {v:Value} {l:List (Int×List (Int×Int))} (h:DRow w v l) (hb:Below w.heap.size w w'):DRow w' v l:=
 RowOf.below h hb fun x _ j y hy=>⟨hy.1,fun hj=>(hy.2 hj).below hb⟩
def obCells (o:Ob) (vU vD vC vE:Value):Array Value:=#[.string (txt o.name),.int .u32 o.key,vU,vD,.int .i64 o.data,.string (txt o.strings),vC,vE,.int .i64 o.calls,.int .i64 o.places]
structure ObParts (w:World) (o:Ob) (vU vD vC vE:Value):Prop where
 uses:URow w vU o.uses
 descs:DRow w vD o.descs
 code:Row .u32 w vC o.code
 entries:Row .i64 w vE o.entries
theorem ObParts.below {w w':World} {o:Ob} {vU vD vC vE:Value} (h:ObParts w o vU vD vC vE) (hb:Below w.heap.size w w'):ObParts w' o vU vD vC vE:=⟨h.uses.below hb,h.descs.below hb,h.code.below hb,h.entries.below hb⟩
def I64 (n:Int):Prop:=-9223372036854775808≤n∧n≤9223372036854775807
structure ObFine (o:Ob):Prop where
 name:o.name.length≤9223372036854775807
 key:0≤o.key∧o.key≤4294967295
 use:∀ u∈o.uses,u.1.length≤9223372036854775807∧0≤u.2∧u.2≤4294967295
 desc:∀ d∈o.descs,I64 d.1∧∀ e∈d.2,I64 e.1∧I64 e.2
 data:I64 o.data
 strings:o.strings.length≤9223372036854775807
 code:∀ x∈o.code,0≤x∧x≤4294967295
 entries:∀ x∈o.entries,I64 x
 calls:I64 o.calls
 places:I64 o.places
theorem RowOf.len {α:Type} {k:Nat} {is:World→α→Nat→Value→Prop} {w:World} {v:Value} {l:List α} (h:RowOf k is w v l):l.length≤9223372036854775807:=h.1
end Go.Proofs.YtceflhffilldeaaGreat
