/-
  Joined: ZDescs.
-/
import Derived.Test.YtceflhffilldeaaGreatZObjG
import Derived.Deep.CutBlock
set_option linter.unusedVariables false
set_option linter.unusedSimpArgs false
set_option maxRecDepth 100000
set_option maxHeartbeats 16000000
namespace Go.Proofs.YtceflhffilldeaaGreat
open Go.RowKit ObjL
theorem use_name {w:World} {o:Ob} {AU:Option Addr} {cU:Nat} (h:URow w (.slice AU o.uses.length cU) o.uses) (k:Nat) (hk:k<o.uses.length):∃ ad,AU=some ad∧ad.block<w.heap.size∧w.cell? (ad.add (k*2))=some (.string (txt (nameAt o k))):=by
 obtain⟨-,A1,c1,e1,hc⟩:=h
 injection e1 with e1 _ e2
 subst e1 e2
 obtain⟨ad,rfl,had,hx⟩:=hc k hk
 obtain⟨y0,q0,z0⟩:=hx 0 (by decide)
 have z0:=z0.1 rfl
 subst z0
 rw[nameAt_eq hk]
 exact⟨ad,rfl,had,q0⟩
end Go.Proofs.YtceflhffilldeaaGreat
namespace Go.Proofs.YtceflhffilldeaaGreat
open Go.RowKit ObjL
namespace ObjL
def descAt (o:Ob) (i:Nat):Int×List (Int×Int):=o.descs.getD i (0,[])
theorem descAt_eq {o:Ob} {i:Nat} (h:i<o.descs.length):descAt o i=o.descs[i]:=by
 unfold descAt
 simp[List.getD,h]
def extOf (l:List (Int×Int)) (k:Nat):Int×Int:=l.getD k (0,0)
theorem extOf_eq {l:List (Int×Int)} {k:Nat} (h:k<l.length):extOf l k=l[k]:=by
 unfold extOf
 simp[List.getD,h]
def extOk (o:Ob) (e:Int×Int):Bool:=decide (0≤e.1∧e.1≤o.uses.length) && decide (0≤e.2∧e.2<64)
theorem extOk_iff (o:Ob) (e:Int×Int):extOk o e=true↔(0≤e.1∧e.1≤o.uses.length)∧0≤e.2∧e.2<64:=by
 unfold extOk
 simp only[Bool.and_eq_true,decide_eq_true_eq]
def sizeOk (d:Int×List (Int×Int)):Prop:=(0≤d.1∧d.1≤32768)∧d.1 % 4=0∧1≤d.2.length∧d.2.length≤5
def lastOk (i:Nat) (d:Int×List (Int×Int)):Prop:=extOf d.2 (d.2.length-1)=(0,(i:Int))
def descOk (o:Ob) (i:Nat) (d:Int×List (Int×Int)):Prop:=sizeOk d∧(∀ k,k<d.2.length→extOk o (extOf d.2 k)=true)∧lastOk i d
theorem last_of {l:List (Int×Int)} (h:1≤l.length) (x:Int×Int):l.getLast?=some x↔extOf l (l.length-1)=x:=by
 rw[extOf_eq (by omega),List.getLast?_eq_getElem?,List.getElem?_eq_getElem (by omega)]
 exact⟨fun h=>by injection h,fun h=>by rw[h]⟩
theorem descB_iff (o:Ob) (i:Nat) (d:Int×List (Int×Int)):descB? o i d=true↔descOk o i d:=by
 unfold descB? descOk sizeOk lastOk
 simp only[Bool.and_eq_true,decide_eq_true_eq,List.all_eq_true]
 constructor
 ·rintro⟨⟨⟨⟨h1,h2⟩,h3⟩,h4⟩,h5⟩
  refine⟨⟨h1,h2,h3⟩,fun k hk=>(extOk_iff _ _).2 (h5 _ ?_),(last_of h3.1 _).1 h4⟩
  rw[extOf_eq hk]
  exact List.getElem_mem hk
 ·rintro⟨⟨h1,h2,h3⟩,h4,h5⟩
  refine⟨⟨⟨⟨h1,h2⟩,h3⟩,(last_of h3.1 _).2 h5⟩,fun e he=>?_⟩
  obtain⟨k,hk,rfl⟩:=List.getElem_of_mem he
  have:=(extOk_iff _ _).1 (h4 k hk)
  rw[extOf_eq hk] at this
  exact this
theorem descsB_iff (o:Ob):descsB o=true↔o.descs.length≤64∧∀ i,i<o.descs.length→descOk o i (descAt o i):=by
 unfold descsB
 simp only[Bool.and_eq_true,decide_eq_true_eq,List.all_eq_true,List.mem_range]
 exact⟨fun h=>⟨h.1,fun i hi=>(descB_iff _ _ _).1 (h.2 i hi)⟩,fun h=>⟨h.1,fun i hi=>(descB_iff _ _ _).2 (h.2 i hi)⟩⟩
theorem descsB_no {o:Ob} {i:Nat} (hi:i<o.descs.length) (h:¬ descOk o i (descAt o i)):descsB o=false:=by
 cases e:descsB o
 ·rfl
 ·exact absurd (((descsB_iff o).1 e).2 i hi) h
theorem descsB_long {o:Ob} (h:¬ o.descs.length≤64):descsB o=false:=by
 cases e:descsB o
 ·rfl
 ·exact absurd ((descsB_iff o).1 e).1 h
theorem desc_no_size {o:Ob} {i:Nat} {d:Int×List (Int×Int)} (h:¬ sizeOk d):¬ descOk o i d:=fun k=>h k.1
theorem desc_no_ext {o:Ob} {i k:Nat} {d:Int×List (Int×Int)} (hk:k<d.2.length) (h:extOk o (extOf d.2 k)=false):¬ descOk o i d:=fun q=>by
 have:=q.2.1 k hk
 rw[h] at this
 cases this
theorem desc_no_last {o:Ob} {i:Nat} {d:Int×List (Int×Int)} (h:¬ lastOk i d):¬ descOk o i d:=fun k=>h k.2.2
theorem boundsB_iff (o:Ob):boundsB o=true↔(0≤o.data∧o.data≤4096)∧o.strings.length≤32768∧o.strings.length % 4=0∧o.code.length≤8192∧1≤o.entries.length∧o.entries.length≤64:=by
 unfold boundsB
 simp only[Bool.and_eq_true,decide_eq_true_eq]
 constructor
 ·rintro⟨⟨⟨⟨h1,h2⟩,h3⟩,h4⟩,h5⟩
  exact⟨h1,h2,h3,h4,h5⟩
 ·rintro⟨h1,h2,h3,h4,h5⟩
  exact⟨⟨⟨⟨h1,h2⟩,h3⟩,h4⟩,h5⟩
theorem boundsB_no {o:Ob} (h:¬ ((0≤o.data∧o.data≤4096)∧o.strings.length≤32768∧o.strings.length % 4=0∧o.code.length≤8192∧1≤o.entries.length∧o.entries.length≤64)):boundsB o=false:=by
 cases e:boundsB o
 ·rfl
 ·exact absurd ((boundsB_iff o).1 e) h
theorem entriesB_any (o:Ob):entriesB o=!(o.entries.any fun x=>!decide (0≤x∧x<o.code.length)):=by
 unfold entriesB
 induction o.entries with
 | nil=>rfl
 | cons a l ih=>rw[List.all_cons,List.any_cons,ih,Bool.not_or,Bool.not_not]
theorem wordsB_fine {o:Ob} (h:ObFine o):wordsB o=true:=by
 unfold wordsB word
 simp only[Bool.and_eq_true,decide_eq_true_eq,List.all_eq_true]
 have hk:=h.key
 exact⟨⟨by omega,fun u hu=>by have:=h.use u hu;omega⟩,fun x hx=>by have:=h.code x hx;omega⟩
theorem goodO_eq {o:Ob} (h:ObFine o):goodO o=(namesB o && descsB o && boundsB o && entriesB o && codedB o):=by
 unfold goodO
 rw[wordsB_fine h,Bool.true_and]
theorem good_no_names {o:Ob} (h:namesB o=false):goodO o=false:=by unfold goodO;rw[h];simp
theorem good_no_descs {o:Ob} (h:descsB o=false):goodO o=false:=by unfold goodO;rw[h];simp
theorem good_no_bounds {o:Ob} (h:boundsB o=false):goodO o=false:=by unfold goodO;rw[h];simp
theorem good_no_entries {o:Ob} (h:entriesB o=false):goodO o=false:=by unfold goodO;rw[h];simp
theorem good_coded {o:Ob} (hf:ObFine o) (h1:namesB o=true) (h2:descsB o=true) (h3:boundsB o=true) (h4:entriesB o=true):goodO o=codedB o:=by rw[goodO_eq hf,h1,h2,h3,h4];rfl
end ObjL
end Go.Proofs.YtceflhffilldeaaGreat
namespace Go.Proofs.YtceflhffilldeaaGreat
open Go.RowKit ObjL
theorem desc_at {w:World} {o:Ob} {AD:Option Addr} {cD:Nat} (h:DRow w (.slice AD o.descs.length cD) o.descs) (i:Nat) (hi:i<o.descs.length):∃ ad y1,AD=some ad∧ad.block<w.heap.size∧w.cell? (ad.add (i*2))=some (.int .i64 (descAt o i).1)∧w.cell? ⟨(ad.add (i*2)).block,(ad.add (i*2)).off+1,none⟩=some y1∧ERow w y1 (descAt o i).2:=by
 obtain⟨-,A1,c1,e1,hc⟩:=h
 injection e1 with e1 _ e2
 subst e1 e2
 obtain⟨ad,rfl,had,hx⟩:=hc i hi
 obtain⟨y0,q0,z0⟩:=hx 0 (by decide)
 obtain⟨y1,q1,z1⟩:=hx 1 (by decide)
 have z0:=z0.1 rfl
 subst z0
 rw[descAt_eq hi]
 exact⟨ad,y1,rfl,had,q0,q1,z1.2 rfl⟩
theorem ext_at {w:World} {l:List (Int×Int)} {A:Option Addr} {c:Nat} (h:ERow w (.slice A l.length c) l) (i:Nat) (hi:i<l.length):∃ ad,A=some ad∧ad.block<w.heap.size∧w.cell? (ad.add (i*2))=some (.int .i64 (extOf l i).1)∧w.cell? ⟨(ad.add (i*2)).block,(ad.add (i*2)).off+1,none⟩=some (.int .i64 (extOf l i).2):=by
 obtain⟨-,A1,c1,e1,hc⟩:=h
 injection e1 with e1 _ e2
 subst e1 e2
 obtain⟨ad,rfl,had,hx⟩:=hc i hi
 obtain⟨y0,q0,z0⟩:=hx 0 (by decide)
 obtain⟨y1,q1,z1⟩:=hx 1 (by decide)
 have z0:=z0.1 rfl
 have z1:=z1.2 rfl
 subst z0 z1
 rw[extOf_eq hi]
 exact⟨ad,rfl,had,q0,q1⟩
theorem size_cases {sz:Int} {es:List (Int×Int)} (h:¬ sizeOk (sz,es)):sz<0∨(0≤sz∧32768<sz)∨(0≤sz∧sz≤32768∧sz % 4≠0)∨(0≤sz∧sz≤32768∧sz % 4=0∧(es.length:Int)<1)∨(0≤sz∧sz≤32768∧sz % 4=0∧1≤(es.length:Int)∧5<(es.length:Int)):=by
 unfold sizeOk at h
 simp only at h
 omega
theorem tmod4 {x:Int} (h:0≤x):x.tmod 4=x % 4:=Int.tmod_eq_emod_of_nonneg h
end Go.Proofs.YtceflhffilldeaaGreat
