/-
  Joined: ZLdI.
-/
import Derived.Test.YtceflhffilldeaaGreatZFill
set_option linter.unusedVariables false
set_option linter.unusedSimpArgs false
set_option maxRecDepth 100000
set_option maxHeartbeats 16000000
namespace Go.Proofs.YtceflhffilldeaaGreat
open ObjL Go.Maps Go.WideMaps
namespace Ldr
def iter {α:Type} (f:Nat→α→α) (a:α):Nat→α
 | 0=>a
 | k+1=>f k (iter f a k)
def steps {α:Type} (f:Nat→α→Except Int α) (a:α):Nat→Except Int α
 | 0=>.ok a
 | k+1=>match steps f a k with | .error e=>.error e | .ok b=>f k b
theorem steps_succ {α:Type} {f:Nat→α→Except Int α} {a b:α} {k:Nat} (h:steps f a k=.ok b):steps f a (k+1)=f k b:=by rw[steps,h]
theorem steps_fail {α:Type} {f:Nat→α→Except Int α} {a:α} {e:Int} {k:Nat} (h:steps f a k=.error e):∀ n,k≤n→steps f a n=.error e
 | 0,hn=>by
  obtain rfl:k=0:=by omega
  exact h
 | n+1,hn=>by
  by_cases hk:k=n+1
  ·subst hk;exact h
  ·rw[steps,steps_fail h n (by omega)]
theorem steps_inv {α:Type} {f:Nat→α→Except Int α} {a:α} (I:α→Prop) (h0:I a):∀ n,(∀ k b c,k<n→I b→f k b=.ok c→I c)→∀ b,steps f a n=.ok b→I b
 | 0,_,b,e=>by rw[steps] at e;injection e with e;rw[← e];exact h0
 | n+1,hs,b,e=>by
  rw[steps] at e
  cases h:steps f a n with
  | error x=>rw[h] at e;cases e
  | ok c=>
   rw[h] at e
   exact hs n c b (by omega) (steps_inv I h0 n (fun k b c hk=>hs k b c (by omega)) c h) e
theorem iter_inv {α:Type} {f:Nat→α→α} {a:α} (I:α→Prop) (h0:I a):∀ n,(∀ k b,k<n→I b→I (f k b))→I (iter f a n)
 | 0,_=>h0
 | n+1,hs=>hs n _ (by omega) (iter_inv I h0 n fun k b hk=>hs k b (by omega))
structure Pl where
 descs:Int
 data:Int
 strings:Int
 code:Int
def plOf (a:Int) (o:Ob):Pl:=⟨a,a+6*o.descs.length,a+6*o.descs.length+o.data,a+6*o.descs.length+o.data+o.strings.length / 4⟩
def plEnd (a:Int) (o:Ob):Int:=(plOf a o).code+o.code.length
structure Im where
 objs:List Ob
 pos:List UInt8→Int
def noOb:Ob:=⟨[],0,[],[],0,[],[],[],-1,-1⟩
def Im.n (m:Im):Nat:=m.objs.length
def Im.ob (m:Im) (i:Nat):Ob:=m.objs.getD i noOb
def Im.at_ (m:Im):Nat→Int
 | 0=>Boot.first m.n
 | i+1=>plEnd (m.at_ i) (m.ob i)
def Im.pl (m:Im) (i:Nat):Pl:=plOf (m.at_ i) (m.ob i)
def Im.end_ (m:Im):Int:=m.at_ m.n
def Im.used (m:Im) (i:Nat) (n:Int):Int:=if n=0 then i else m.pos ((m.ob i).uses.getD (n-1).toNat ([],0)).1-1
def Im.usedN (m:Im) (i:Nat) (n:Int):Nat:=(m.used i n).toNat
def Im.dataN (m:Im) (j:Nat) (n:Nat):Int:=(m.ob j).data+(if n=0 then ((m.ob j).strings.length:Int) / 4 else 0)
def Im.lkEnt (m:Im) (j n k:Nat) (D:DataW Unit):DataW Unit:=(D.put (pkey 0 n k) (pnum ((m.pl j).code+(m.ob j).entries.getD k 0))).put (pkey 2 n k) (pnum ((m.pl j).code+(m.ob j).entries.getD k 0))
def Im.lkDesc (m:Im) (j n k:Nat) (D:DataW Unit):DataW Unit:=D.put (pkey 3 n k) (pnum ((m.pl j).descs+6*k))
def Im.lkData (m:Im) (j n k:Nat) (D:DataW Unit):DataW Unit:=D.put (pkey 1 n k) (pnum ((m.pl j).data+k))
def Im.lkMod (m:Im) (i n:Nat) (D:DataW Unit):DataW Unit:=
 iter (m.lkData (m.usedN i n) n) (iter (m.lkDesc (m.usedN i n) n) (iter (m.lkEnt (m.usedN i n) n) D (m.ob (m.usedN i n)).entries.length) (m.ob (m.usedN i n)).descs.length) (m.dataN (m.usedN i n) n).toNat
def Im.links (m:Im) (i:Nat):DataW Unit:=iter (m.lkMod i) (.map []) ((m.ob i).uses.length+1)
def Im.putExt (m:Im) (i:Nat) (a:Int) (es:List (Int×Int)) (k:Nat) (ws:List Int):Except Int (List Int):=
 if (es.getD k (0,0)).2<(m.ob (m.usedN i (es.getD k (0,0)).1)).descs.length then .ok (ws.set (a+1+k).toNat (4*((m.pl (m.usedN i (es.getD k (0,0)).1)).descs+6*(es.getD k (0,0)).2))) else .error 250
def Im.putDesc (m:Im) (i k:Nat) (ws:List Int):Except Int (List Int):=
 steps (m.putExt i ((m.pl i).descs+6*k) ((m.ob i).descs.getD k (0,[])).2) (ws.set ((m.pl i).descs+6*k).toNat ((m.ob i).descs.getD k (0,[])).1) ((m.ob i).descs.getD k (0,[])).2.length
def Im.putStr (m:Im) (i k:Nat) (ws:List Int):List Int:=
 ws.set ((m.pl i).strings+k / 4).toNat (bits .or .u32 (ws.getD ((m.pl i).strings+k / 4).toNat 0) (IntKind.u32.wrap (IntKind.u32.wrap (((m.ob i).strings.getD k 0).toNat:Int)*2 ^ (8*((k % 4:Nat):Int)).toNat)))
def Im.fillC (m:Im) (i:Nat) (code:List Int) (head:Int):Except Int (List Int):=
 if Fx.ferr code head (m.pl i).code (m.links i)=0 then .ok (Fx.flist code head (m.pl i).code (m.links i)) else .error 250
def Im.code (m:Im) (i:Nat):Except Int (List Int):=
 match m.fillC i (m.ob i).code (m.ob i).calls with
 | .error e=>.error e
 | .ok c=>m.fillC i c (m.ob i).places
def copyAt (ws:List Int) (a:Nat) (c:List Int):List Int:=ws.take a++c++ws.drop (a+c.length)
def Im.put (m:Im) (i:Nat) (ws:List Int):Except Int (List Int):=
 match steps (m.putDesc i) ws (m.ob i).descs.length with
 | .error e=>.error e
 | .ok w1=>match m.code i with
  | .error e=>.error e
  | .ok c=>.ok (copyAt (iter (m.putStr i) w1 (m.ob i).strings.length) (m.pl i).code.toNat c)
def Im.entries (m:Im):List Int:=(List.range m.n).map fun i=>(m.pl i).code+(m.ob i).entries.getD 0 0
def Im.words0 (m:Im) (W:Int):List Int:=Boot.words W m.entries++List.replicate (W.toNat-(m.n+13)) 0
def Im.image (m:Im) (W S:Int):Except Int (List Int):=
 if m.end_≤W-S-16 then
  match steps m.put (m.words0 W) m.n with
  | .error e=>.error e
  | .ok ws=>.ok (((ws.set 4 (4*m.end_)).set 5 (4*(W-S))).set 6 (4*(W-S)+256))
 else .error 253
structure Im.Ok (m:Im):Prop where
 one:1≤m.n
 few:m.n≤16
 good:∀ i,i<m.n→goodO (m.ob i)=true
 uses:∀ i,i<m.n→∀ u∈(m.ob i).uses,1≤m.pos u.1∧m.pos u.1≤m.n
structure Ob.Fit (o:Ob):Prop where
 uses:o.uses.length≤16
 descs:o.descs.length≤64
 data:0≤o.data∧o.data≤4096
 strings:o.strings.length≤32768
 str4:o.strings.length % 4=0
 code:o.code.length≤8192
 entries:1≤o.entries.length∧o.entries.length≤64
 entry:∀ e∈o.entries,0≤e∧e<o.code.length
 desc:∀ d∈o.descs,(0≤d.1∧d.1≤32768)∧(1≤d.2.length∧d.2.length≤5)∧∀ e∈d.2,(0≤e.1∧e.1≤o.uses.length)∧0≤e.2∧e.2<64
 u32:U32s o.code
theorem word_bd {x:Int} (h:word x=true):0≤x∧x<4294967296:=by
 unfold word at h
 simp only[Bool.and_eq_true,decide_eq_true_eq] at h
 omega
theorem good_fit {o:Ob} (h:goodO o=true):Ob.Fit o:=by
 unfold goodO wordsB namesB descsB boundsB entriesB at h
 simp only[Bool.and_eq_true,decide_eq_true_eq,List.all_eq_true] at h
 obtain⟨⟨⟨⟨⟨⟨⟨hk,huw⟩,hcw⟩,⟨⟨⟨hn,hu16⟩,hun⟩,hnd⟩⟩,⟨hd64,hdd⟩⟩,⟨⟨⟨⟨hda,hs1⟩,hs2⟩,hc1⟩,he1⟩⟩,hee⟩,hco⟩:=h
 refine⟨hu16,hd64,hda,hs1,hs2,hc1,he1,hee,fun d hd=>?_,fun i hi=>?_⟩
 ·obtain⟨i,hi,rfl⟩:=List.getElem_of_mem hd
  have h1:=hdd i (List.mem_range.2 hi)
  rw[List.getD_eq_getElem?_getD,List.getElem?_eq_getElem hi] at h1
  unfold descB? at h1
  simp only[Option.getD_some,Bool.and_eq_true,decide_eq_true_eq,List.all_eq_true] at h1
  obtain⟨⟨⟨⟨a1,a2⟩,a3⟩,a4⟩,a5⟩:=h1
  exact⟨a1,a3,fun e he=>⟨(a5 e he).1,(a5 e he).2⟩⟩
 ·rw[List.getD_eq_getElem?_getD,List.getElem?_eq_getElem hi]
  exact word_bd (hcw _ (List.getElem_mem hi))
section
variable {m:Im}
theorem Im.ob_eq {i:Nat} (hi:i<m.n):m.ob i=m.objs[i]'hi:=by unfold Im.ob;rw[List.getD_eq_getElem?_getD,List.getElem?_eq_getElem hi];rfl
theorem Im.Ok.fit (h:m.Ok) {i:Nat} (hi:i<m.n):Ob.Fit (m.ob i):=good_fit (h.good i hi)
theorem Im.at0 (h:m.Ok):m.at_ 0=13+m.n:=by
 have h1:=h.few
 show Boot.first m.n=_
 rw[Boot.first,if_pos (by omega)]
structure PlOk (p:Pl) (o:Ob) (a z:Int):Prop where
 d0:p.descs=a
 d1:p.data=a+6*o.descs.length
 d2:p.strings=p.data+o.data
 d3:p.code=p.strings+o.strings.length / 4
 d4:z=p.code+o.code.length
theorem Im.pl_ok (i:Nat):PlOk (m.pl i) (m.ob i) (m.at_ i) (m.at_ (i+1)):=⟨rfl,rfl,rfl,rfl,rfl⟩
theorem Im.at_bd (h:m.Ok):∀ i,i≤m.n→13+(m.n:Int)≤m.at_ i∧m.at_ i≤29+20864*(i:Int)
 | 0,_=>by rw[Im.at0 h];have:=h.few;omega
 | i+1,hi=>by
  have h1:=Im.at_bd h i (by omega)
  have hp:=Im.pl_ok (m:=m) i
  have hf:=h.fit (show i<m.n by omega)
  obtain⟨p0,p1,p2,p3,p4⟩:=hp
  obtain⟨f1,f2,f3,f4,f5,f6,f7,-,-,-⟩:=hf
  push_cast
  omega
theorem Im.at_mono (h:m.Ok) {i:Nat}:∀ j,i≤j→j≤m.n→m.at_ i≤m.at_ j
 | 0,h1,_=>by
  obtain rfl:i=0:=by omega
  exact Int.le_refl _
 | j+1,h1,h2=>by
  by_cases e:i=j+1
  ·subst e;exact Int.le_refl _
  ·have ih:=Im.at_mono h (i:=i) j (by omega) (by omega)
   obtain⟨p0,p1,p2,p3,p4⟩:=Im.pl_ok (m:=m) j
   obtain⟨f1,f2,f3,f4,f5,f6,f7,-,-,-⟩:=h.fit (show j<m.n by omega)
   omega
theorem Im.used_bd (h:m.Ok) {i:Nat} (hi:i<m.n) {n:Int} (h0:0≤n) (h1:n≤(m.ob i).uses.length):0≤m.used i n∧m.used i n<m.n:=by
 unfold Im.used
 by_cases e:n=0
 ·rw[if_pos e];omega
 ·rw[if_neg e]
  have hl:(n-1).toNat<(m.ob i).uses.length:=by omega
  rw[List.getD_eq_getElem?_getD,List.getElem?_eq_getElem hl]
  have:=h.uses i hi _ (List.getElem_mem hl)
  simp only[Option.getD_some]
  omega
theorem Im.usedN_lt (h:m.Ok) {i:Nat} (hi:i<m.n) {n:Int} (h0:0≤n) (h1:n≤(m.ob i).uses.length):m.usedN i n<m.n∧((m.usedN i n:Nat):Int)=m.used i n:=by
 have:=Im.used_bd h hi h0 h1
 unfold Im.usedN
 omega
theorem Im.entries_len:m.entries.length=m.n:=by simp[Im.entries]
theorem Im.entries_at {i:Nat} (hi:i<m.n):m.entries.getD i 0=(m.pl i).code+(m.ob i).entries.getD 0 0:=by
 simp[Im.entries,List.getD_eq_getElem?_getD,List.getElem?_map,List.getElem?_range hi]
theorem Im.entry_in (h:m.Ok) {i:Nat} (hi:i<m.n):(m.pl i).code≤m.entries.getD i 0∧m.entries.getD i 0<m.at_ (i+1):=by
 rw[Im.entries_at hi]
 have hf:=h.fit hi
 obtain⟨p0,p1,p2,p3,p4⟩:=Im.pl_ok (m:=m) i
 have hl:0<(m.ob i).entries.length:=by have:=hf.entries.1;omega
 have he:=hf.entry _ (List.getElem_mem hl)
 rw[List.getD_eq_getElem?_getD,List.getElem?_eq_getElem hl]
 simp only[Option.getD_some]
 omega
theorem Im.boot_ok (h:m.Ok) {W S:Int} (hW:256≤W) (hW2:W≤65536) (hS:0≤S) (he:m.end_≤W-S-16):Boot.ok W m.entries=true:=by
 unfold Boot.ok Boot.sized Boot.inside
 simp only[Bool.and_eq_true,decide_eq_true_eq]
 refine⟨⟨⟨hW,hW2⟩,by rw[Im.entries_len];exact h.few⟩,fun i hi=>?_⟩
 rw[Im.entries_len] at hi
 have h1:=Im.entry_in h hi
 have h2:=Im.at_mono h (i:=i+1) m.n (by omega) (Nat.le_refl _)
 have h3:=(Im.at_bd h i (by omega)).1
 obtain⟨p0,p1,p2,p3,p4⟩:=Im.pl_ok (m:=m) i
 obtain⟨f1,f2,f3,f4,f5,f6,f7,-,-,-⟩:=h.fit hi
 unfold Im.end_ at he
 omega
theorem Im.words0_len (h:m.Ok) {W:Int} (hW:256≤W):(m.words0 W).length=W.toNat:=by
 have:=h.few
 unfold Im.words0
 rw[List.length_append,Boot.words_len,Im.entries_len,List.length_replicate]
 omega
end
theorem fills_u32 {code:List Int} {at_:Int} {V:Int→Int→Int→Int} {H:Int→Int→Int→Bool} (hu:U32s code) (ha:0≤at_∧at_≤65536) :
  ∀ (l out c:List Int),(∀ p∈l,0≤p∧p≤65536∧p.toNat<code.length)→U32s out→Fx.fills code at_ V H l out=some c→U32s c∧c.length=out.length
 | [],out,c,_,ho,e=>by rw[Fx.fills] at e;injection e with e;rw[← e];exact⟨ho,rfl⟩
 | p::l,out,c,hp,ho,e=>by
  rw[Fx.fills] at e
  split at e
  case isFalse=>cases e
  case isTrue hc=>
   obtain⟨q0,q1,q2⟩:=hp p (by simp)
   have g1:=Fx.ins1_good (code.getD p.toNat 0) (at_+p) _ (hu _ q2) hc.2 (by omega)
   have g2:=Fx.ins2_good (code.getD p.toNat 0) _ (hu _ q2) hc.2
   have:=fills_u32 hu ha l _ c (fun q hq=>hp q (by simp[hq])) (fun i hi=>?_) e
   ·simpa using this
   ·simp only[List.length_set] at hi
    by_cases e2:p.toNat+1=i
    ·subst e2
     rw[Fx.getD_set_same _ _ _ (by simpa using hi)]
     exact Ins.E_bd _
    ·rw[Fx.getD_set_other _ _ _ _ e2]
     by_cases e1:p.toNat=i
     ·subst e1
      rw[Fx.getD_set_same _ _ _ hi]
      exact Ins.E_bd _
     ·rw[Fx.getD_set_other _ _ _ _ e1]
      exact ho i hi
end Ldr
end Go.Proofs.YtceflhffilldeaaGreat
namespace Go.Proofs.YtceflhffilldeaaGreat
open ObjL
namespace Ldr
def LS.Cl (s:LS):Prop:=∀ o∈s.objs,∀ u∈o.uses,0<s.pos u.1
structure LS.Ext (s s':LS):Prop where
 cl:s'.Cl
 pos:∀ t,0<s.pos t→s'.pos t=s.pos t
 objs:∃ l,s'.objs=s.objs++l
theorem LS.Ext.refl {s:LS} (h:s.Cl):s.Ext s:=⟨h,fun _ _=>rfl,[],by simp⟩
theorem LS.Ext.trans {a b c:LS} (h:a.Ext b) (k:b.Ext c):a.Ext c:=by
 obtain⟨l1,e1⟩:=h.objs
 obtain⟨l2,e2⟩:=k.objs
 exact⟨k.cl,fun t ht=>by rw[k.pos t (by rw[h.pos t ht];exact ht),h.pos t ht],l1++l2,by rw[e2,e1,List.append_assoc]⟩
theorem usesL_ext {ld:List UInt8→LS→Except Int (Int×LS)} (h:∀ nm s k s',ld nm s=.ok (k,s')→s.Cl→s.Ext s'∧0<s'.pos nm) :
  ∀ (l:List (List UInt8×Int)) (s s':LS),usesL ld l s=.ok s'→s.Cl→s.Ext s'∧∀ u∈l,0<s'.pos u.1
 | [],s,s',e,hc=>by rw[usesL] at e;injection e with e;rw[← e];exact⟨LS.Ext.refl hc,fun u hu=>by cases hu⟩
 | u::l,s,s',e,hc=>by
  rw[usesL] at e
  cases h1:ld u.1 s with
  | error x=>rw[h1] at e;cases e
  | ok r=>
   obtain⟨k,s1⟩:=r
   rw[h1] at e
   dsimp only at e
   split at e
   case isFalse=>cases e
   case isTrue=>
    obtain⟨a1,a2⟩:=h _ _ _ _ h1 hc
    obtain⟨b1,b2⟩:=usesL_ext h l s1 s' e a1.cl
    refine⟨a1.trans b1,fun v hv=>?_⟩
    rcases List.mem_cons.1 hv with rfl | hv
    ·rw[b1.pos _ a2];exact a2
    ·exact b2 v hv
theorem load_ext (G:Files):∀ (f:Nat) (nm:List UInt8) (s:LS) (k:Int) (s':LS),load G f nm s=.ok (k,s')→s.Cl→s.Ext s'∧0<s'.pos nm
 | 0,nm,s,k,s',e,_=>by rw[load] at e;cases e
 | f+1,nm,s,k,s',e,hc=>by
  rw[load] at e
  split at e
  case isTrue hp=>
   injection e with e;injection e with _ e;rw[← e];exact⟨LS.Ext.refl hc,hp⟩
  case isFalse hp=>
   split at e
   case isFalse=>cases e
   case isTrue h0=>
    split at e
    case isFalse=>cases e
    case isTrue hb=>
     split at e
     ·cases e
     ·split at e
      ·cases e
      ·rename_i o ho
       split at e
       case isFalse=>cases e
       case isTrue hn=>
        split at e
        ·cases e
        ·rename_i s1 hu
         injection e with e
         injection e with _ e
         have hcm:(s.mark nm).Cl:=fun o ho u hu=>by
          have:=hc o ho u hu
          show 0<(if u.1=nm then (-1:Int) else s.pos u.1)
          rw[if_neg (fun e=>by rw[e,h0] at this;omega)]
          exact this
         obtain⟨a1,a2⟩:=usesL_ext (load_ext G f) _ _ _ hu hcm
         have hl:(0:Int)<((s1.objs++[o]).length:Int):=by
          have:(s1.objs++[o]).length=s1.objs.length+1:=by simp
          omega
         have hd:∀ t,0<s1.pos t→0<(s1.done nm o).pos t:=fun t ht=>by
          show 0<(if t=nm then ((s1.objs++[o]).length:Int) else s1.pos t)
          split
          ·exact hl
          ·exact ht
         subst e
         refine⟨⟨fun x hx u hu=>?_,fun t ht=>?_,?_⟩,?_⟩
         ·rcases List.mem_append.1 hx with hx | hx
          ·exact hd _ (a1.cl x hx u hu)
          ·rw[List.mem_singleton.1 hx] at hu
           exact hd _ (a2 u hu)
         ·have hne:t≠nm:=fun e=>by rw[e,h0] at ht;omega
          have hm:(s.mark nm).pos t=s.pos t:=by show (if t=nm then (-1:Int) else s.pos t)=_;rw[if_neg hne]
          show (if t=nm then ((s1.objs++[o]).length:Int) else s1.pos t)=_
          rw[if_neg hne,a1.pos t (by rw[hm];exact ht),hm]
         ·obtain⟨l,el⟩:=a1.objs
          exact⟨l++[o],by show s1.objs++[o]=_;rw[el,List.append_assoc];rfl⟩
         ·show 0<(if nm=nm then ((s1.objs++[o]).length:Int) else s1.pos nm)
          rw[if_pos rfl];exact hl
theorem load_last {G:Files} {f:Nat} {nm:List UInt8} {s:LS} {k:Int} {s':LS} (h:load G f nm s=.ok (k,s')) (h0:s.pos nm=0):∃ l o,s'.objs=l++[o]∧o.name=nm:=by
 cases f with
 | zero=>rw[load] at h;cases h
 | succ f=>
  rw[load,if_neg (by omega),if_pos h0] at h
  split at h
  case isFalse=>cases h
  case isTrue=>
   split at h
   ·cases h
   ·split at h
    ·cases h
    ·split at h
     case isFalse=>cases h
     case isTrue hn=>
      split at h
      ·cases h
      ·injection h with h
       injection h with _ h
       subst h
       exact⟨_,_,rfl,hn⟩
def LS.im (s:LS):Im:=⟨s.objs,s.pos⟩
theorem none_cl:LS.none_.Cl:=fun o ho=>by cases ho
theorem load_im {G:Files} {f:Nat} {nm:List UInt8} {k:Int} {s':LS} (h:load G f nm LS.none_=.ok (k,s')) (hok:s'.Ok):s'.im.Ok:=by
 obtain⟨l,o,e,-⟩:=load_last h rfl
 obtain⟨a1,-⟩:=load_ext G f nm _ _ _ h none_cl
 have hn:s'.im.n=s'.objs.length:=rfl
 refine⟨by rw[hn,e];simp,by rw[hn];have h1:=hok.few;have h2:=hok.high;omega,fun i hi=>?_,fun i hi u hu=>?_⟩
 ·rw[Im.ob_eq hi];exact(hok.good _ (List.getElem_mem hi)).1
 ·rw[Im.ob_eq hi] at hu
  exact⟨by have:=a1.cl _ (List.getElem_mem hi) u hu;show (1:Int)≤s'.pos u.1;omega,hok.at_ _⟩
theorem load_name {G:Files} {f:Nat} {nm:List UInt8} {k:Int} {s':LS} (h:load G f nm LS.none_=.ok (k,s')):(s'.im.ob (s'.im.n-1)).name=nm:=by
 obtain⟨l,o,e,hn⟩:=load_last h rfl
 have:s'.im.ob (s'.im.n-1)=o:=by
  unfold Im.ob Im.n LS.im
  dsimp only
  rw[e]
  simp
 rw[this,hn]
end Ldr
end Go.Proofs.YtceflhffilldeaaGreat
namespace Go.Proofs.YtceflhffilldeaaGreat
open ObjL
namespace Ldr
structure Agree (lo hi:Nat) (X Y:List Int):Prop where
 lx:hi≤X.length
 ly:hi≤Y.length
 eq:∀ k,lo≤k→k<hi→X.getD k 0=Y.getD k 0
theorem getD_set_eq (l:List Int) (i j:Nat) (x:Int):(l.set i x).getD j 0=if i=j∧j<l.length then x else l.getD j 0:=by
 by_cases e:i=j
 ·subst e
  by_cases h:i<l.length
  ·rw[Fx.getD_set_same _ _ _ h,if_pos ⟨rfl,h⟩]
  ·rw[if_neg (fun c=>h c.2),List.getD_eq_getElem?_getD,List.getD_eq_getElem?_getD,List.getElem?_eq_none (by simp;omega),List.getElem?_eq_none (by omega)]
 ·rw[Fx.getD_set_other _ _ _ _ e,if_neg (fun c=>e c.1)]
theorem Agree.set {lo hi:Nat} {X Y:List Int} (h:Agree lo hi X Y) (k:Nat) (v:Int):Agree lo hi (X.set k v) (Y.set k v):=
 ⟨by simpa using h.lx,by simpa using h.ly,fun j h1 h2=>by
  have:=h.lx
  have:=h.ly
  rw[getD_set_eq,getD_set_eq]
  by_cases e:k=j
  ·rw[if_pos ⟨e,by omega⟩,if_pos ⟨e,by omega⟩]
  ·rw[if_neg (fun c=>e c.1),if_neg (fun c=>e c.1),h.eq j h1 h2]⟩
theorem copyAt_len (ws c:List Int) (a:Nat) (h:a+c.length≤ws.length):(copyAt ws a c).length=ws.length:=by
 unfold copyAt
 rw[List.length_append,List.length_append,List.length_take,List.length_drop]
 omega
section
variable {m:Im} {lo hi:Nat}
theorem flist_len {code:List Int} {head a:Int} {D:DataW Unit} (hu:U32s code) (h:Fx.ferr code head a D=0):U32s (Fx.flist code head a D)∧(Fx.flist code head a D).length=code.length:=by
 cases hf:Fx.fill code head a (pval D) (phas D) with
 | none=>rw[(ferr_none hf).1] at h;cases h
 | some c=>
  rw[(ferr_some hf).2]
  have hf0:=hf
  unfold Fx.fill at hf
  split at hf
  ·cases hf
  ·rename_i l hl
   split at hf
   case isFalse=>cases hf
   case isTrue hm=>
    unfold Fx.mayAt at hm
    rw[decide_eq_true_eq] at hm
    have hg:=Fx.chain_good hl
    exact fills_u32 hu ⟨hm.1,hm.2.1⟩ l code c (fun p hp=>by have:=hg.inside p hp;omega) hu hf
theorem fillC_len {i:Nat} {code c:List Int} {head:Int} (hu:U32s code) (h:m.fillC i code head=.ok c):U32s c∧c.length=code.length:=by
 unfold Im.fillC at h
 split at h
 case isTrue he=>injection h with h;rw[← h];exact flist_len hu he
 case isFalse=>cases h
theorem code_len (hok:m.Ok) {i:Nat} (hi:i<m.n) {c:List Int} (h:m.code i=.ok c):U32s c∧c.length=(m.ob i).code.length:=by
 unfold Im.code at h
 split at h
 ·cases h
 ·rename_i c1 h1
  obtain⟨a1,a2⟩:=fillC_len (hok.fit hi).u32 h1
  obtain⟨b1,b2⟩:=fillC_len a1 h
  exact⟨b1,b2.trans a2⟩
theorem putDesc_len {i k:Nat} {X Y:List Int} (h:m.putDesc i k X=.ok Y):Y.length=X.length:=by
 refine steps_inv (fun Z:List Int=>Z.length=X.length) (by simp) _ (fun k b c _ hb hc=>?_) Y h
 unfold Im.putExt at hc
 split at hc
 ·injection hc with hc;rw[← hc,List.length_set];exact hb
 ·cases hc
theorem descs_len {i n:Nat} {X Y:List Int} (h:steps (m.putDesc i) X n=.ok Y):Y.length=X.length:=
 steps_inv (fun Z:List Int=>Z.length=X.length) rfl _ (fun k b c _ hb hc=>(putDesc_len hc).trans hb) Y h
theorem strs_len {i:Nat} {X:List Int}:∀ n,(iter (m.putStr i) X n).length=X.length:=fun n=>iter_inv (fun Z:List Int=>Z.length=X.length) rfl n fun k b _ hb=>by unfold Im.putStr;rw[List.length_set];exact hb
theorem code_in (hok:m.Ok) {i:Nat} (hi:i<m.n):13+(m.n:Int)≤(m.pl i).descs∧(m.pl i).descs≤(m.pl i).data∧(m.pl i).data≤(m.pl i).strings∧(m.pl i).strings≤(m.pl i).code∧(m.pl i).code+(m.ob i).code.length≤m.end_∧(m.pl i).code<m.end_:=by
 obtain⟨p0,p1,p2,p3,p4⟩:=Im.pl_ok (m:=m) i
 have h1:=Im.at_bd hok i (by omega)
 have h2:=Im.at_mono hok (i:=i+1) m.n (by omega) (Nat.le_refl _)
 have h3:=Im.entry_in hok hi
 obtain⟨f1,f2,f3,f4,f5,f6,f7,-,-,-⟩:=hok.fit hi
 unfold Im.end_
 omega
theorem put_len (hok:m.Ok) {i:Nat} (hi:i<m.n) {X Y:List Int} (hl:m.end_≤X.length) (h:m.put i X=.ok Y):Y.length=X.length:=by
 unfold Im.put at h
 split at h
 ·cases h
 ·rename_i w1 h1
  split at h
  ·cases h
  ·rename_i c hc
   injection h with h
   have:=descs_len h1
   have hc2:=(code_len hok hi hc).2
   have:=code_in hok hi
   rw[← h,copyAt_len _ _ _ (by rw[strs_len];omega),strs_len]
   omega
theorem image_ok (hok:m.Ok) {W S:Int} (hW:256≤W) (hS:0≤S) {X:List Int} (h:m.image W S=.ok X):m.end_≤W-S-16∧X.length=W.toNat∧X.getD 4 0=4*m.end_∧X.getD 5 0=4*(W-S)∧X.getD 6 0=4*(W-S)+256:=by
 unfold Im.image at h
 split at h
 case isFalse=>cases h
 case isTrue he=>
  split at h
  ·cases h
  ·rename_i ws hw
   injection h with h
   have h0:=(Im.at_bd hok m.n (Nat.le_refl _)).1
   have hl:ws.length=W.toNat:=by
    refine steps_inv (fun Z:List Int=>Z.length=W.toNat) (Im.words0_len hok hW) _ (fun k b c hk hb hc=>?_) ws hw
    rw[put_len hok hk (by rw[hb];unfold Im.end_ at he ⊢;omega) hc,hb]
   subst h
   refine⟨he,by simpa using hl,?_,?_,?_⟩
   ·rw[getD_set_eq,if_neg (fun c=>absurd c.1 (by decide)),getD_set_eq,if_neg (fun c=>absurd c.1 (by decide)),getD_set_eq,if_pos ⟨rfl,by omega⟩]
   ·rw[getD_set_eq,if_neg (fun c=>absurd c.1 (by decide)),getD_set_eq,if_pos ⟨rfl,by rw[List.length_set];omega⟩]
   ·rw[getD_set_eq,if_pos ⟨rfl,by rw[List.length_set,List.length_set];omega⟩]
theorem image_err {W S e:Int} (h:m.image W S=.error e):e=253∨e=250:=by
 unfold Im.image at h
 have key:∀ (n:Nat) (X:List Int) (e:Int),steps m.put X n=.error e→e=250:=by
  intro n
  induction n with
  | zero=>intro X e h;rw[steps] at h;cases h
  | succ n ih=>
   intro X e h
   rw[steps] at h
   cases h1:steps m.put X n with
   | error x=>rw[h1] at h;injection h with h;rw[← h];exact ih X x h1
   | ok ws=>
    rw[h1] at h
    dsimp only at h
    unfold Im.put at h
    have kd:∀ (n:Nat) (i:Nat) (X:List Int) (e:Int),steps (m.putDesc i) X n=.error e→e=250:=by
     intro n
     induction n with
     | zero=>intro i X e h;rw[steps] at h;cases h
     | succ n ih=>
      intro i X e h
      rw[steps] at h
      cases h1:steps (m.putDesc i) X n with
      | error x=>rw[h1] at h;injection h with h;rw[← h];exact ih i X x h1
      | ok ws=>
       rw[h1] at h
       dsimp only at h
       unfold Im.putDesc at h
       have ke:∀ (n:Nat) (i:Nat) (a:Int) (es:List (Int×Int)) (X:List Int) (e:Int),steps (m.putExt i a es) X n=.error e→e=250:=by
        intro n
        induction n with
        | zero=>intro i a es X e h;rw[steps] at h;cases h
        | succ n ih=>
         intro i a es X e h
         rw[steps] at h
         cases h1:steps (m.putExt i a es) X n with
         | error x=>rw[h1] at h;injection h with h;rw[← h];exact ih i a es X x h1
         | ok ws=>
          rw[h1] at h
          dsimp only at h
          unfold Im.putExt at h
          split at h
          ·cases h
          ·injection h with h;exact h.symm
       exact ke _ _ _ _ _ _ h
    have kc:∀ i code head e,m.fillC i code head=.error e→e=250:=by
     intro i code head e h
     unfold Im.fillC at h
     split at h
     ·cases h
     ·injection h with h;exact h.symm
    split at h
    ·rename_i x hx
     injection h with h;rw[← h];exact kd _ _ _ _ hx
    ·split at h
     ·rename_i x hx
      injection h with h
      rw[← h]
      unfold Im.code at hx
      split at hx
      ·rename_i y hy
       injection hx with hx;rw[← hx];exact kc _ _ _ _ hy
      ·exact kc _ _ _ _ hx
     ·cases h
 split at h
 ·split at h
  ·rename_i x hx
   injection h with h;right;rw[← h];exact key _ _ _ hx
  ·cases h
 ·injection h with h;left;exact h.symm
end
end Ldr
end Go.Proofs.YtceflhffilldeaaGreat
