/- The evaluator's texts ZPOK to NFit7, joined. -/
import Derived.Test.YtjpbnkiifhfofaaGreatEv6
import Derived.Calls
import Derived.Below
import Derived.Sort.Grow
import Derived.Deep.Draws
import Derived.Lib.ConvBytes
import Derived.Shelf.Abstract
import Derived.Lib.LaidTab
import GoSem.Extern.MathFloor
import Derived.Lib.Bytealg
import Derived.Test.YtjpbnkiifhfofaaGreatChecked
import Derived.Lib.LaidU8
import Derived.Lib.LaidIn
import Derived.Deep.DeepWitnessRowRef
import Derived.ProofKit
import Derived.Test.YtjpbnkiifhfofaaGreatShelf
import Derived.Test.YtjpbnkiifhfofaaGreatRows
import Derived.Shelf.Spec.SlicesInsertGrow
import Derived.WalkKit
set_option maxHeartbeats 1000000
set_option linter.all false
set_option linter.deprecated false
set_option linter.unusedVariables false
set_option linter.unusedSimpArgs false
set_option linter.unnecessarySimpa false
namespace Go.Evl.Zone
open Go Go.Evl Go.RowKit Go.Sort
def PSound (P:Program) (Inv:G→Prop) (f:FuncId) (p:List PV→Heap→Option ORes):Prop:=∀ args H r,p args H=some r→∀ (g:G) (vs:List Value) (R:Value→World→Prop),WR g→Inv g→g.H=H→Cs g vs args →
  (∀ g' v,g'.H=r.h→WR g'→Ext g g'→VR g' v r.v→R v g'.w)→Goes P f vs.toArray g.w R
theorem goes_calls {P:Program} {f:FuncId} {args:Array Value} {w:World} {R:Value→World→Prop} {Q:Ending→World→Prop} (hE:Go.Proofs.Enters P f) (h:Calls P f args w Q) (hq:∀ e w',Q e w'→∃ v,e = .returned v∧R v w'):Goes P f args w R:=by
 unfold Goes
 rw [hE args w]
 refine h.mono fun e w' hx=>?_
 obtain ⟨v,rfl,hr⟩:=hq e w' hx
 exact hr
theorem grown_g {g:G} (hW:WR g) {w':World} (hb:Below g.w.heap.size g.w w'):∃ g':G,g'.w=w'∧g'.H=g.H∧WR g'∧Ext g g'∧∀ b,g.w.heap.size≤b→b < w'.heap.size→g'.Z b:=by
 obtain ⟨h1,h2⟩:=grow_world hW w' (fun b=>g.w.heap.size≤b∧b < w'.heap.size) hb.size hb.block (fun b h=>h) ⟨hb.os,hb.tape,hb.output⟩
 exact ⟨⟨w',fun b=>g.Z b∨(g.w.heap.size≤b∧b < w'.heap.size),g.ι,g.H⟩,rfl,rfl,h1,h2,fun b h h'=>.inr ⟨h,h'⟩⟩
theorem elems_slice {g:G} (hW:WR g) {v:Value} {p:PV} (hv:VR g v p) (hp:∀ x,p≠.val x) {k:Nat} {ys:List (List PV)} {is:List Nat} (h:elems g.H k p=some (ys,is)) :
  ∃ (ad:Option Addr) (c:Nat),v = .slice ad ys.length c∧ys.length≤c∧(ys≠[]→∃ (b o:Nat) (news:List Value),ad=some ⟨b,o,none⟩∧b < g.w.heap.size∧RR g k news ys∧∀ (j:Nat) u,news[j]?=some u→g.w.cell? ⟨b,o+j,none⟩=some u):=by
 unfold elems at h
 split at h
 ·rename_i xs full
  split at h
  ·rename_i hall
   simp at h; obtain ⟨rfl,rfl⟩:=h
   obtain ⟨ad,cap,rfl,_,hcap,hat⟩:=hv.inv_im
   refine ⟨ad,cap,rfl,hcap,fun hne=>?_⟩
   obtain ⟨k',b,off,c,t,fr,cv,rfl,hZ,hb,_,hk,hno,hc,hh⟩:=hat hne
   have hkk:k=k':=allLen_eq hall hne hk
   subst hkk
   have key:∀ (q:Nat) (p:PV),xs.flatten[q]?=some p→∃ u,g.w.cell? ⟨b,off+q,none⟩=some u∧(VR g u p∧u.oneCell'=true):=by
    intro q p hq
    obtain ⟨hk0,x,h1,h2⟩:=flat_get' hk hq
    have h3:=hc _ x _ p h1 h2
    rw [Nat.add_assoc,Nat.mul_comm,Nat.div_add_mod] at h3
    exact ⟨_,by rw [cell_of hb]; exact h3.1,hh _ x _ p h1 h2,h3.2⟩
   obtain ⟨news,n1,n2⟩:=cells_of (g:=g) (ps:=xs.flatten) (ad:=fun q=>g.w.cell? ⟨b,off+q,none⟩) (fun q p hq=>let ⟨u,z1,z2⟩:=key q p hq; ⟨u,z1,z2.1⟩)
   refine ⟨b,off,news,rfl,lt_of_heap hb,⟨n1,hk,fun u hu=>?_⟩,n2⟩
   obtain ⟨q,hq⟩:=List.mem_iff_getElem?.1 hu
   have hq':q < xs.flatten.length:=by rw [← n1.1]; exact (List.getElem?_eq_some_iff.1 hq).1
   obtain ⟨u',z1,z2⟩:=key q _ (List.getElem?_eq_getElem hq')
   rw [n2 q u hq] at z1; simp at z1; subst z1; exact z2.2
  ·simp at h
 ·rename_i r k' gen off len
  split at h
  ·rename_i k'' xs own hb
   split at h
   ·rename_i hcond
    obtain ⟨rfl,rfl,rfl,hle⟩:=hcond
    simp at h; obtain ⟨rfl,rfl⟩:=h
    cases hv with
    | sl ad _ _ _ _ _ cap hlc hg hh =>
      obtain ⟨a1,a2,b,c,t,fr,q1,q2,q3,q4,q5,q6⟩:=hW.row r k xs own hb
      have hval:Valid g r k xs.length b:=⟨q1,by rw [hb]; rfl,by rw [hb]; rfl⟩
      obtain ⟨e1,_⟩:=hh b hval
      subst e1
      have hrr:=row_rr a2 q5 q6
      have hsub:=(hrr.drop off).take len
      have hlen:((xs.drop off).take len).length=len:=by simp; omega
      refine ⟨_,cap,by rw [hlen],by rw [hlen]; exact hlc,fun _=>⟨b,off * k,_,rfl,lt_of_heap q2,hsub,fun j u hj=>?_⟩⟩
      rw [List.getElem?_take] at hj
      split at hj
      ·rw [List.getElem?_drop,List.getElem?_take] at hj
       split at hj
       ·rw [cell_of q2]; simpa using hj
       ·simp at hj
      ·simp at hj
   ·simp at h
  ·simp at h
 ·exact absurd rfl (hp _)
 ·exact absurd rfl (hp _)
 ·simp at h
variable {P:Program} {Inv:G→Prop}
theorem cs_one {g:G} {vs:List Value} {p:PV} (h:Cs g vs [p]):∃ v,vs=[v]∧VR g v p:=by
 obtain ⟨v,h1,h2⟩:=h.get (i:=0) (p:=p) rfl
 have:=h.1
 match vs,this,h1 with
 | [x],_,h1=>simp at h1; exact ⟨v,by rw [h1],h2⟩
theorem cs_two {g:G} {vs:List Value} {p q:PV} (h:Cs g vs [p,q]):∃ v u,vs=[v,u]∧VR g v p∧VR g u q:=by
 obtain ⟨v,h1,h2⟩:=h.get (i:=0) (p:=p) rfl
 obtain ⟨u,h3,h4⟩:=h.get (i:=1) (p:=q) rfl
 have:=h.1
 match vs,this,h1,h3 with
 | [x,y],_,h1,h3=>simp at h1 h3; exact ⟨v,u,by rw [h1,h3],h2,h4⟩
theorem split_ok {f:FuncId} {t:TypeId} (hE:Go.Proofs.Enters P f) (hC:∀ g,Inv g→∀ (s sep:ByteArray),s.size < 4294967281→1≤sep.size→Calls P f #[.string s,.string sep] g.w fun e w' =>
   e = .returned (.slice (some ⟨g.w.heap.size,0,none⟩) (Lib.countB s sep+1) (Lib.countB s sep+1))∧w'=g.w.alloc (.cells ((Lib.splitB sep 0 (Lib.countB s sep) s).map Value.string).toArray t)):PSound P Inv f pSplit:=by
 intro args H r h g vs R hW hI hH ha hR
 unfold pSplit at h
 split at h
 ·rename_i s p
  split at h
  ·rename_i c hc
   split at h
   ·rename_i hs
    simp at h; subst h
    obtain ⟨v,u,rfl,h1,h2⟩:=cs_two ha
    obtain rfl:=h1.inv_val
    obtain rfl:=h2.inv_val
    have hp1:1≤p.size:=by
     have:p.size=p.data.toList.length:=(Array.length_toList (xs:=p.data)).symm
     rw [this,hc]; simp
    refine goes_calls hE (hC g hI s p hs hp1) ?_
    rintro e w' ⟨rfl,hw⟩
    refine ⟨_,rfl,?_⟩
    generalize hL:Lib.splitB p 0 (Lib.countB s p) s=L at hw
    have hlen:L.length=Lib.countB s p+1:=by rw [← hL]; exact Lib.splitB_all p hp1 0 _ s rfl
    have hLL:L.map (·.data.toList)=splitL c s.data.toList:=by rw [← hL]; exact splitB_lib hc
    have hbel:Below g.w.heap.size g.w w':=hw▸(Below.refl _ _).alloc (Nat.le_refl _) _
    obtain ⟨g',e1,e2,e3,e4,e5⟩:=grown_g hW hbel
    have hnew:g'.w.heap[g.w.heap.size]?=some (.cells (L.map Value.string).toArray t (0,0)):=by
     rw [e1,hw]; exact heap_alloc_new g.w _
    have hx:((splitL c s.data.toList).map fun x=>[strOf x])=L.map fun x=>[PV.val (.string x)]:=by
     rw [← hLL,List.map_map]
     refine List.map_congr_left fun x _=>?_
     simp [strOf]
    refine e1▸hR g' _ (by rw [e2,hH]) e3 e4 ?_
    rw [← hlen,hx]
    refine VR.mk_im (by simp) (by simp) (by simp) fun _=>⟨1,g.w.heap.size,0,_,t,_,fun i j=>((L.map Value.string)[i]?).getD undef,rfl,e5 _ (Nat.le_refl _) (lt_of_heap (e1▸hnew)),hnew,by simp,?_,?_,?_,?_⟩
    ·intro x hx; simp at hx; obtain ⟨c,_,rfl⟩:=hx; rfl
    ·intro x hx p hp; simp at hx; obtain ⟨c,_,rfl⟩:=hx; simp at hp; subst hp; exact .val _
    all_goals
     intro i x j p hx hp
     simp only [List.getElem?_map,Option.map_eq_some_iff] at hx
     obtain ⟨c,hc,rfl⟩:=hx
     have hj:j=0:=by have:=(List.getElem?_eq_some_iff.1 hp).1; simp at this; omega
     subst hj
     simp at hp; subst hp
     have hat:(L.map Value.string)[i]?=some (.string c):=by simp [hc]
     first
      | exact ⟨by simp [hc],by simp [hc,Value.oneCell']⟩
      | (simp only [hat,Option.getD_some]; exact .val _)
   ·simp at h
  ·simp at h
 ·simp at h
theorem goes_val {f:FuncId} {args:Array Value} {g:G} {x:Value} {H:Heap} {R:Value→World→Prop} {Q:Ending→World→Prop} (hE:Go.Proofs.Enters P f) (h:Calls P f args g.w Q) (hW:WR g) (hH:g.H=H)
  (hq:∀ e w',Q e w'→e = .returned x∧Below g.w.heap.size g.w w') (hR:∀ g' v,g'.H=H→WR g'→Ext g g'→VR g' v (.val x)→R v g'.w):Goes P f args g.w R:=by
 refine goes_calls hE h fun e w' hx=>?_
 obtain ⟨he,hb⟩:=hq e w' hx
 obtain ⟨g',e1,e2,e3,e4,e5⟩:=grown_g hW hb
 exact ⟨x,he,e1▸hR g' x (by rw [e2,hH]) e3 e4 (.val x)⟩
theorem below_grow (w:World) (k:Nat) (os:Array Obj):Below w.heap.size w (grow (w.drewN k) os) :=
 ⟨rfl,rfl,rfl,by simp [grow,World.drewN],fun b hb=>by
  show (w.heap++os)[b]?=_
  rw [Array.getElem?_append,if_pos hb]⟩
theorem itoa_ok {f:FuncId} (hE:Go.Proofs.Enters P f) (hC:∀ g,Inv g→∀ n:Int,-9223372036854775808≤n→n≤9223372036854775807→Calls P f #[.int .i64 n] g.w fun e w'=>e = .returned (.string ⟨(Lib.itoa n).toArray⟩)∧∃ k os,w'=grow (g.w.drewN k) os):PSound P Inv f pItoa:=by
 intro args H r h g vs R hW hI hH ha hR
 unfold pItoa at h
 split at h
 ·rename_i n
  split at h
  ·rename_i hn
   simp at h; subst h
   obtain ⟨v,rfl,h1⟩:=cs_one ha
   obtain rfl:=h1.inv_val
   refine goes_val (x:=.string ⟨(itoaL n).toArray⟩) hE (hC g hI n hn.1 hn.2) hW hH ?_ hR
   rintro e w' ⟨rfl,k,os,rfl⟩
   exact ⟨by rw [itoaL_lib hn.1 hn.2],below_grow _ _ _⟩
  ·simp at h
 ·simp at h
theorem join_ok {f:FuncId} (hE:Go.Proofs.Enters P f) (hN:∀ (g:G) (a:Option Addr) (c:Nat) (sep:ByteArray),Calls P f #[.slice a 0 c,.string sep] g.w fun e w'=>e = .returned (.string ⟨#[]⟩)∧w'=g.w)
  (hC:∀ (g:G) (bk o c:Nat) (xs:List ByteArray) (sep:ByteArray),(∀ (j:Nat) x,xs[j]?=some x→g.w.cell? ⟨bk,o+j,none⟩=some (.string x))→bk < g.w.heap.size→xs.length≤140737488355328→xs.length≤c→(Lib.join (xs.map (·.data.toList)) sep.data.toList).length≤140737488355328 →
   Calls P f #[.slice (some ⟨bk,o,none⟩) xs.length c,.string sep] g.w fun e w'=>e = .returned (.string ⟨(Lib.join (xs.map (·.data.toList)) sep.data.toList).toArray⟩)∧Below g.w.heap.size g.w w'):PSound P Inv f pJoin:=by
 intro args H r h g vs R hW hI hH ha hR
 unfold pJoin at h
 split at h
 ·simp at h
 ·rename_i x p hnv
  split at h
  ·rename_i xs is hel
   split at h
   ·rename_i l hl
    split at h
    ·rename_i hcond
     simp at h; subst h
     obtain ⟨v,u,rfl,h1,h2⟩:=cs_two ha
     obtain rfl:=h2.inv_val
     subst hH
     obtain ⟨ad,c,rfl,hlc,hat⟩:=elems_slice hW h1 (fun x0 hx0=>hnv x0 hx0) hel
     have hstr:∀ (xs:List (List PV)) (l:List (List UInt8)),strs xs=some l→xs=l.map fun x=>[strOf x]:=by
      intro xs
      induction xs with
      | nil=>intro l h; simp [strs] at h; subst h; rfl
      | cons y ys ih =>
        intro l h
        unfold strs at h
        split at h
        ·rename_i heq; simp at heq
        ·rename_i s r heq
         simp at heq; obtain ⟨rfl,rfl⟩:=heq
         simp only [Option.map_eq_some_iff] at h
         obtain ⟨l',h',rfl⟩:=h
         rw [ih l' h']; simp [strOf]
        ·simp at h
     have hxs:=hstr xs l hl
     cases hne:xs with
     | nil =>
       have hl0:l=[]:=by rw [hne] at hxs; simpa using hxs.symm
       subst hl0
       rw [show ([]:List (List PV)).length=0 from rfl]
       refine goes_val (x:=.string ⟨#[]⟩) hE (hN g ad c p) hW rfl ?_ hR
       rintro e w' ⟨rfl,rfl⟩
       exact ⟨rfl,Below.refl _ _⟩
     | cons y ys =>
       obtain ⟨b,o,news,rfl,hbl,hrr,hcell⟩:=hat (by rw [hne]; simp)
       rw [← hne]
       have hlen:(l.map fun x=>(⟨x.toArray⟩:ByteArray)).length=xs.length:=by rw [hxs]; simp
       rw [← hlen]
       have hmm:(l.map fun x=>(⟨x.toArray⟩:ByteArray)).map (·.data.toList)=l:=by rw [List.map_map]; exact (List.map_congr_left fun x _=>by simp).trans (List.map_id l)
       generalize hL:(l.map fun x=>(⟨x.toArray⟩:ByteArray))=L at hlen hmm
       have hLl:L.length≤140737488355328:=by rw [← hL,List.length_map]; exact hcond.1
       have hLc:L.length≤c:=by rw [hlen]; exact hlc
       have hLj:(Lib.join (L.map (·.data.toList)) p.data.toList).length≤140737488355328:=by rw [hmm,← joinL_lib]; exact hcond.2
       have hcells:∀ (j:Nat) x,L[j]?=some x→g.w.cell? ⟨b,o+j,none⟩=some (.string x):=by
        intro j x hx
        rw [← hL] at hx
        have hflat:xs.flatten=l.map strOf:=by
         rw [hxs]
         have:∀ l:List (List UInt8),(l.map fun x=>[strOf x]).flatten=l.map strOf:=by
          intro l
          induction l with
          | nil=>rfl
          | cons a l ih=>simp only [List.map_cons,List.flatten_cons,ih]; rfl
         exact this l
        obtain ⟨z,hz⟩:∃ z,l[j]?=some z∧(⟨z.toArray⟩:ByteArray)=x:=by simpa using hx
        have hfj:xs.flatten[j]?=some (strOf z):=by rw [hflat]; simp [hz.1]
        obtain ⟨cv,c1,c2⟩:=hrr.cs.get hfj
        have:=c2.inv_val
        rw [hcell j cv c1,this,← hz.2]
       have hcall:=hC g b o c L p hcells hbl hLl hLc hLj
       rw [hmm,← joinL_lib] at hcall
       exact goes_val (x:=.string ⟨(joinL p.data.toList l).toArray⟩) hE hcall hW rfl (fun e w' h=>h) hR
    ·simp at h
   ·simp at h
  ·simp at h
 ·simp at h
theorem below_bytes (w:World) (e:TypeId) (s:ByteArray):Below w.heap.size w (Lib.bytesWorld w e s):=by
 have h1:((w.drew.alloc (.cells (Lib.bytesCells w e s) e)).heap).size=w.heap.size+1:=by simp
 unfold Lib.bytesWorld World.freeze
 simp only [Nat.one_ne_zero,if_false]
 refine ⟨rfl,rfl,rfl,?_,fun b hb=>?_⟩
 ·simp only [Array.size_modify]; omega
 ·simp only [Array.getElem?_modify]
  rw [if_neg (by omega)]
  exact Below.heap_alloc w.drew _ b hb
theorem atoi_ok {f:FuncId} {t:TypeId} {ti:TypeId} (hE:Go.Proofs.Enters P f)
  (hC:∀ (g:G) (s:ByteArray),s.size≤9223372036854775806→∀ v:Int,Lib.atoiAll s.data.toList = .ok v→Calls P f #[.string s] g.w fun e w'=>e = .returned (.tuple #[.int .i64 v,.nilIface])∧(w'=g.w∨∃ t',w'=Lib.bytesWorld g.w t t'))
  (hS:∀ g,Inv g→∀ (s:ByteArray),s.size≤281474976710656→(∀ v,Lib.atoiAll s.data.toList≠.ok v)→Lib.atoiAll s.data.toList≠.range→Calls P f #[.string s] g.w fun e w'=>(∃ N,e = .returned (.tuple #[.int .i64 (0),.iface ti (.pointer (some ⟨N,0,none⟩))]))∧Below g.w.heap.size g.w w')
  (hR:∀ g,Inv g→∀ (s:ByteArray),s.size≤281474976710656→Lib.atoiAll s.data.toList = .range→Calls P f #[.string s] g.w fun e w'=>(∃ N,e = .returned (.tuple #[.int .i64 (Lib.atoiSat s.data.toList),.iface ti (.pointer (some ⟨N,0,none⟩))]))∧Below g.w.heap.size g.w w'):PSound P Inv f pAtoi:=by
 intro args H r h g vs R hW hI hH ha hQ
 unfold pAtoi at h
 split at h
 ·rename_i s
  split at h
  ·rename_i hs
   split at h
   ·rename_i v hv
    simp at h; subst h
    obtain ⟨u,rfl,h1⟩:=cs_one ha
    obtain rfl:=h1.inv_val
    refine goes_calls hE (hC g s (by omega) v hv) ?_
    rintro e w' ⟨rfl,hw⟩
    have hb:Below g.w.heap.size g.w w':=by
     rcases hw with rfl | ⟨t',rfl⟩
     ·exact Below.refl _ _
     ·exact below_bytes _ _ _
    obtain ⟨g',e1,e2,e3,e4,e5⟩:=grown_g hW hb
    exact ⟨_,rfl,e1▸hQ g' _ (by rw [e2,hH]) e3 e4 (VR.of_tup (Cs.cons (.val _) (Cs.cons (.val _) (Cs.nil _))))⟩
   ·rename_i hv
    simp at h; subst h
    obtain ⟨u,rfl,h1⟩:=cs_one ha
    obtain rfl:=h1.inv_val
    refine goes_calls hE (hR g hI s hs hv) ?_
    rintro e w' ⟨⟨N,rfl⟩,hb⟩
    obtain ⟨g',e1,e2,e3,e4,e5⟩:=grown_g hW hb
    exact ⟨_,rfl,e1▸hQ g' _ (by rw [e2,hH]) e3 e4 (VR.of_tup (Cs.cons (.val _) (Cs.cons (.ifc _ _) (Cs.nil _))))⟩
   ·rename_i hv1 hv2
    simp at h; subst h
    obtain ⟨u,rfl,h1⟩:=cs_one ha
    obtain rfl:=h1.inv_val
    refine goes_calls hE (hS g hI s hs hv1 hv2) ?_
    rintro e w' ⟨⟨N,rfl⟩,hb⟩
    obtain ⟨g',e1,e2,e3,e4,e5⟩:=grown_g hW hb
    exact ⟨_,rfl,e1▸hQ g' _ (by rw [e2,hH]) e3 e4 (VR.of_tup (Cs.cons (.val _) (Cs.cons (.ifc _ _) (Cs.nil _))))⟩
  ·simp at h
 ·simp at h
theorem trunc_ok {f : FuncId} (hC : ∀ (x : Nat) (w : World) (args : Array Value), (callFunc f args).run P w = (do return Next.value (← Extern.MathFloor.toIntegral "math.archTrunc" .zero args) : Sem Next).run P w) : PSound P Inv f pTrunc := by
 intro args H r h g vs R hW hI hH ha hR
 unfold pTrunc at h
 split at h
 ·rename_i b
  split at h
  ·simp at h
  ·rename_i d hd
   simp at h; subst h
   obtain ⟨u,rfl,h1⟩:=cs_one ha
   obtain rfl:=h1.inv_val
   have hrun:(callFunc f [Value.float .f64 b].toArray).run P g.w = .ok (.value (.float .f64 (FloatKind.f64.encode ((FloatKind.f64.decode b).integral .zero)))) g.w:=by
    rw [hC b]
    simp only [Sem.run_bind]
    have key : ∀ e, FloatKind.f64.decode b = e → (∀ s t, e ≠ .nan s t) → Extern.MathFloor.toIntegral "math.archTrunc" .zero [Value.float .f64 b].toArray = pure (.float .f64 (FloatKind.f64.encode (e.integral .zero))) := by
     intro e he hn
     unfold Extern.MathFloor.toIntegral
     show (match FloatKind.f64.decode b with
      | .nan s t=>_
      | d=>(pure (Value.float .f64 (FloatKind.f64.encode (d.integral .zero))):Sem Value))=_
     rw [he]
     cases e with
     | nan s t=>exact (hn s t rfl).elim
     | number _ _ _=>rfl
     | infinity _=>rfl
    rw [key _ rfl (fun s t hx=>hd s t hx)]
    rfl
   unfold Goes
   rw [hrun]
   exact hR g _ hH hW (Ext.refl g) (.val _)
 ·simp at h
end Go.Evl.Zone

namespace Go.Evl.Zone
open Go Go.Evl Go.RowKit
theorem compare_ok {P:Program} {Inv:G→Prop} {f:FuncId} (hE:Go.Proofs.Enters P f) (hC:∀ (a b:ByteArray) (w:World),Calls P f #[.string a,.string b] w fun e w'=>e = .returned (.int .i64 (Lib.compareBytes a.data.toList b.data.toList))∧w'=w):PSound P Inv f pCompare:=by
 intro args H r h g vs R hW hI hH ha hR
 unfold pCompare at h
 split at h
 ·rename_i a b
  simp at h; subst h
  obtain ⟨v,u,rfl,h1,h2⟩:=cs_two ha
  obtain rfl:=h1.inv_val
  obtain rfl:=h2.inv_val
  refine goes_val hE (hC a b g.w) hW hH ?_ hR
  rintro e w' ⟨rfl,rfl⟩
  exact ⟨rfl,Below.refl _ _⟩
 ·simp at h
def cloneC (t:TypeId) (k:Nat):CF:=⟨
 (.seq
 (.reg false [
  ⟨(some 2),(.mv (.c (.im [] true))),none⟩] [])
 (.seq
 (.seq
 (.reg false [
  ⟨(some 3),(.mv (.t 0)),none⟩,
  ⟨(some 4),(.bin .eql t false true (.t 3) (.c (.im [] true))),none⟩] [])
 (.cond (.t 4)
  (.seq
  (.reg false [
   ⟨(some 2),(.mv (.c (.im [] true))),none⟩] [])
  .ret)
  .skip))
 (.seq
 (.reg false [
  ⟨(some 5),(.bsl k 0 [] []),none⟩,
  ⟨(some 6),(.mv (.t 0)),none⟩,
  ⟨(some 7),(.app k (.t 5) (.t 6)),none⟩,
  ⟨(some 2),(.mv (.t 7)),none⟩] [])
 .ret))),
 [.tmp 2]⟩
def E0 (P:Program) (h:How) (f:FuncId) (c:CF):Env:=⟨P,fun _ _=>h,fun n=>if n=f then some c else none,fun _ _=>none⟩
theorem E0_P {P:Program} {h:How} {f:FuncId} {c:CF}:(E0 P h f c).P=P:=rfl
section
variable {P:Program} {h:How} {f:FuncId} {t:TypeId} {k:Nat}
theorem bn_val {el:TypeId} (ht:P.underlying t=some (.slice el)) {ad:Option Addr} {n c:Nat}:evBin P .eql t false true (.val (.slice ad n c)) (.im [] true)=some (.val (.bool ad.isNone)):=by
 simp [evBin,toV,snil,ht]
theorem bn_im {el:TypeId} (ht:P.underlying t=some (.slice el)) {y:List PV} {ys:List (List PV)} {fl:Bool}:evBin P .eql t false true (.im (y::ys) fl) (.im [] true)=some (.val (.bool false)):=by
 simp [evBin,toV,snil,ht]
theorem bn_sl {el:TypeId} (ht:P.underlying t=some (.slice el)) {r k g o n:Nat}:evBin P .eql t false true (.sl r k g o (n+1)) (.im [] true)=some (.val (.bool false)):=by
 simp [evBin,toV,snil,ht]
theorem clone_full {x:PV} {ys:List (List PV)} {is:List Nat} {H:Heap} (hb:evBin P .eql t false true x (.im [] true)=some (.val (.bool false))) (he:elems (H.grow 1) k x=some (ys,is)) (h0:ys≠[]) (hm:ys.length≤most) :
  V (E0 P h f (cloneC t k)) f (cloneC t k).body ⟨start [x],H,[]⟩ [] fun _ st=>st.h=(H.grow 1).put H.n (.row k ys true)∧resV st (cloneC t k).res=some (.sl H.n k ys.length 0 ys.length):=by
 have hf:∀ H,freeze H []=H:=fun _=>rfl
 simp [cloneC,E0_P,hb,hf,he,appendP,h0,hm,chunks,allLen,nAlloc,allocs,start]
theorem clone_nil {el:TypeId} (ht:P.underlying t=some (.slice el)) {c:Nat} {H:Heap} :
  V (E0 P h f (cloneC t k)) f (cloneC t k).body ⟨start [.val (.slice none 0 c)],H,[]⟩ [] fun _ st=>st.h=H.grow 0∧resV st (cloneC t k).res=some (.im [] true):=by
 simp [cloneC,E0_P,bn_val ht,start]
theorem clone_none {el:TypeId} (ht:P.underlying t=some (.slice el)) {ad:Addr} {c:Nat} {H:Heap} :
  V (E0 P h f (cloneC t k)) f (cloneC t k).body ⟨start [.val (.slice (some ad) 0 c)],H,[]⟩ [] fun _ st=>st.h=H.grow 1∧resV st (cloneC t k).res=some (.im [] true):=by
 have hf:∀ H,freeze H []=H:=fun _=>rfl
 simp [cloneC,E0_P,bn_val ht,hf,elems,appendP,chunks,allLen,nAlloc,allocs,start]
theorem elems_at {H H':Heap} (h:H'.at_=H.at_) {k:Nat} {x:PV}:elems H' k x=elems H k x:=by
 unfold elems
 rw [h]
theorem clone_ok {Inv:G→Prop} {el:TypeId} (hI:InvOK Inv) (ht:P.underlying t=some (.slice el)) (hc:(E0 P .keep f (cloneC t k)).code f=some (cloneC t k)):PSound P Inv f (pClone k):=by
 intro args H r h g vs R hW hinv hH ha hR
 have hT:TabOK (E0 P .keep f (cloneC t k)):=by
  intro f' cf q
  simp only [E0] at q
  split at q
  ·rename_i e
   subst e
   simp only [Option.some.injEq] at q
   subst q
   exact hc
  ·cases q
 have hF:PrimFr (E0 P .keep f (cloneC t k)):=⟨fun c f p q=>by (cases q),fun c f p q=>by (cases q)⟩
 have hD:PrimDd (E0 P .keep f (cloneC t k)):=⟨fun c f p q=>by (cases q)⟩
 have hP:PrimOK (E0 P .keep f (cloneC t k)) Inv:=⟨fun c f p q=>by (cases q)⟩
 subst hH
 unfold pClone at h
 split at h
 ·rename_i x
  split at h
  ·cases h
  ·rename_i hstr
   split at h
   ·rename_i ys is he
    split at h
    ·rename_i h0
     have hys:ys=[]:=List.length_eq_zero_iff.1 h0
     subst hys
     simp only [Option.some.injEq] at h; subst h
     obtain ⟨v,rfl,hv⟩:=cs_one ha
     have hval:∃ ad c,v = .slice ad 0 c:=by
      unfold elems at he
      split at he
      ·rename_i xs fl
       split at he
       ·simp at he
        obtain ⟨rfl,rfl⟩:=he
        obtain ⟨ad,cap,rfl,_⟩:=hv.inv_im
        exact ⟨_,_,rfl⟩
       ·cases he
      ·rename_i r0 k0 g0 off len
       split at he
       ·split at he
        ·rename_i hcnd
         obtain ⟨_,_,_,hle⟩:=hcnd
         simp only [Option.some.injEq,Prod.mk.injEq] at he
         have hl:=congrArg List.length he.1
         simp at hl
         cases hv with
         | sl ad _ _ _ _ _ cap hlc hg hh =>
           have:len=0:=by omega
           subst this
           exact ⟨_,_,rfl⟩
        ·cases he
       ·cases he
      ·rename_i s
       simp [isStr] at hstr
      ·have:=hv.inv_val
       exact ⟨_,_,this⟩
      ·cases he
     obtain ⟨ad,c,rfl⟩:=hval
     have ha':Cs g [.slice ad 0 c] [.val (.slice ad 0 c)]:=Cs.cons (.val _) (Cs.nil _)
     cases ad with
     | none =>
       obtain ⟨n,e,st,hev,h1,h2⟩:=clone_nil (P:=P) (h:=.keep) (f:=f) (t:=t) (k:=k) ht (c:=c) (H:=g.H)
       refine evl_goes (E:=E0 P .keep f (cloneC t k)) hI hT hF hD hP hc hW hinv ha' hev h2 fun g' v he hw hh hv=>?_
       exact hR (g'.room 1) v (by show g'.H.grow 1=_; rw [hh,h1]; exact Heap.ext' rfl fun i=>by simp) (wr_room hw 1) (he.trans (ext_room hw 1)) (hv.mono hw (ext_room hw 1))
     | some ad =>
       obtain ⟨n,e,st,hev,h1,h2⟩:=clone_none (P:=P) (h:=.keep) (f:=f) (t:=t) (k:=k) ht (ad:=ad) (c:=c) (H:=g.H)
       exact evl_goes (E:=E0 P .keep f (cloneC t k)) hI hT hF hD hP hc hW hinv ha' hev h2 fun g' v he hw hh hv=>hR g' v (by rw [hh,h1]) hw he hv
    ·rename_i h0
     split at h
     ·rename_i hm
      simp only [Option.some.injEq] at h; subst h
      have h0':ys≠[]:=fun q=>h0 (by rw [q]; rfl)
      have he':elems (g.H.grow 1) k x=some (ys,is):=by rw [elems_at (room_at hW 1)]; exact he
      have hb:evBin P .eql t false true x (.im [] true)=some (.val (.bool false)):=by
       unfold elems at he
       split at he
       ·rename_i xs fl
        split at he
        ·simp at he
         obtain ⟨rfl,rfl⟩:=he
         cases xs with
         | nil=>exact (h0' rfl).elim
         | cons y ys=>exact bn_im ht
        ·cases he
       ·rename_i r k' g0 off len
        split at he
        ·split at he
         ·simp only [Option.some.injEq,Prod.mk.injEq] at he
          cases len with
          | zero=>simp at he; exact (h0' he.1).elim
          | succ n=>exact bn_sl ht
         ·cases he
        ·cases he
       ·simp [isStr] at hstr
       ·simp at he
        exact (h0' he.1).elim
       ·cases he
      obtain ⟨n,e,st,hev,h1,h2⟩:=clone_full (P:=P) (h:=.keep) (f:=f) (t:=t) (k:=k) (H:=g.H) hb he' h0' hm
      exact evl_goes (E:=E0 P .keep f (cloneC t k)) hI hT hF hD hP hc hW hinv ha hev h2 fun g' v he hw hh hv=>hR g' v (by rw [hh,h1]) hw he hv
     ·cases h
   ·cases h
 ·cases h
end
end Go.Evl.Zone

namespace Go.Evl.Zone
open Go Go.Evl Go.RowKit
theorem im_nil {g:G} {v:Value} (h:VR g v (.im [] true)):∃ a,v = .slice a 0 0:=by
 obtain ⟨ad,cap,rfl,h1,h2,h3⟩:=h.inv_im
 have:=h1 rfl
 simp at this
 subst this
 exact ⟨ad,rfl⟩
theorem grow_ok {P:Program} {Inv:G→Prop} {f:FuncId} {k:Nat} (hk:0 < k) (hE:Go.Proofs.Enters P f)
  (hR:∀ (a:Option Addr) (w:World),Calls P f #[.slice a 0 0,.int .i64 0] w fun e w'=>e = .returned (.slice a 0 0)∧w'=w)
  (hG:∀ (a:Option Addr) (n:Nat) (w:World),0 < n→n≤most→Calls P f #[.slice a 0 0,.int .i64 (n:Int)] w fun e w'=>∃ (cap:Nat) (c:Array Value) (t:TypeId),e = .returned (.slice (some ⟨w.heap.size,0,none⟩) 0 cap)∧w'=w.drew.alloc (.cells c t (0,0))∧c.size=cap * k):PSound P Inv f (pGrow k):=by
 intro args H r h g vs R hW hI hH ha hRR
 subst hH
 unfold pGrow at h
 split at h
 ·rename_i n
  obtain ⟨v,u,rfl,h1,h2⟩:=cs_two ha
  obtain ⟨a,rfl⟩:=im_nil h1
  obtain rfl:=h2.inv_val
  split at h
  ·rename_i h0
   subst h0
   simp only [Option.some.injEq] at h; subst h
   refine goes_calls hE (hR a g.w) ?_
   rintro e w' ⟨rfl,rfl⟩
   exact ⟨_,rfl,hRR (g.room 1) _ rfl (wr_room hW 1) (ext_room hW 1) (.imE a 0 true fun _=>rfl)⟩
  ·split at h
   ·rename_i hn
    obtain ⟨m,rfl⟩:∃ m:Nat,n=(m:Int):=⟨n.toNat,by omega⟩
    simp only [Option.some.injEq] at h; subst h
    refine goes_calls hE (hG a m g.w (by omega) (by omega)) ?_
    rintro e w' ⟨cap,c,t,rfl,rfl,hc⟩
    have hW1:WR (g.room 1).drew:=wr_drew (wr_room hW 1)
    have hE1:Ext g (g.room 1).drew:=(ext_room hW 1).trans (ext_drew _)
    have hd:(g.room 1).drew.H.at_ g.H.n = .dead:=by
     show (g.H.grow 1).at_ g.H.n = .dead
     rw [room_at hW 1]
     exact hW.dead _ (Nat.le_refl _)
    have hs:g.H.n < (g.room 1).drew.H.n:=Nat.lt_succ_self _
    have hf:Fits (g.room 1).drew c (.row k [] true):=⟨rfl,hk,by simp,by simp,by simp⟩
    have hE2:=ext_alloc (g:=(g.room 1).drew) hd c t (.row k [] true)
    refine ⟨_,rfl,hRR ((g.room 1).drew.allocd g.H.n c t (.row k [] true)) _ rfl (wr_alloc hW1 hd hs hf) (hE1.trans hE2) ?_⟩
    refine .sl _ _ _ _ _ _ cap (Nat.zero_le _) ⟨0,by show rowLen (((g.H.grow 1).put g.H.n (.row k [] true)).at_ g.H.n)=_; simp [rowLen],Nat.le_refl _⟩ ?_
    rintro b ⟨hb,_,_⟩
    have hb':some g.w.drew.heap.size=some b:=by
     have:(if g.H.n=g.H.n then some g.w.drew.heap.size else g.ι g.H.n)=some b:=hb
     rwa [if_pos rfl] at this
    obtain rfl:=(Option.some.inj hb').symm
    refine ⟨by simp,c,t,(0,0),?_,by simpa using hc⟩
    exact heap_alloc_new _ _
   ·cases h
 ·cases h
theorem inv_im_val {g:G} {v:Value} {xs:List (List PV)} {fl:Bool} (h:VR g v (.im xs fl)):∃ ad cap,v = .slice ad xs.length cap:=by
 obtain ⟨ad,cap,rfl,_⟩:=h.inv_im
 exact ⟨ad,cap,rfl⟩
section
variable {P:Program} {f:FuncId} {t:TypeId} {k:Nat}
theorem cloneF_pok {Inv:G→Prop} {el:TypeId} (hI:InvOK Inv) (ht:P.underlying t=some (.slice el)) (hc:(E0 P .own f (cloneC t k)).code f=some (cloneC t k)):PSound P Inv f (pCloneF k):=by
 intro args H r h g vs R hW hinv hH ha hR
 have hT:TabOK (E0 P .own f (cloneC t k)):=by
  intro f' cf q
  simp only [E0] at q
  split at q
  ·rename_i e
   subst e
   simp only [Option.some.injEq] at q
   subst q
   exact hc
  ·cases q
 have hF:PrimFr (E0 P .own f (cloneC t k)):=⟨fun c f p q=>by (cases q),fun c f p q=>by (cases q)⟩
 have hD:PrimDd (E0 P .own f (cloneC t k)):=⟨fun c f p q=>by (cases q)⟩
 have hP:PrimOK (E0 P .own f (cloneC t k)) Inv:=⟨fun c f p q=>by (cases q)⟩
 subst hH
 unfold pCloneF at h
 split at h
 ·rename_i xs fl
  split at h
  ·rename_i hx
   obtain ⟨hlen,hm⟩:=hx
   split at h
   ·rename_i ys hys
    simp only [Option.some.injEq] at h; subst h
    obtain ⟨v,rfl,hv⟩:=cs_one ha
    have hev:=fun N=>(ev_sound hI hT hF hD hP N).1
    have hcs:∀ g' v,g'.H=g.H→WR g'→Ext g g'→VR g' v (.im ys false)→R v g'.w:=fun g' v a b c d=>hR g' v a b c d
    by_cases h0:xs=[]
    ·subst h0
     simp [plainss] at hys
     subst hys
     obtain ⟨ad,c,rfl⟩:=inv_im_val hv
     have ha':Cs g [.slice ad 0 c] [.val (.slice ad 0 c)]:=Cs.cons (.val _) (Cs.nil _)
     have hx:expAs g.H [.val (.slice ad 0 c)]=some ([.val (.slice ad 0 c)],[]):=rfl
     cases ad with
     | none =>
       obtain ⟨n,e,st,h,h1,h2⟩:=clone_nil (P:=P) (h:=.own) (f:=f) (t:=t) (k:=k) ht (c:=c) (H:=Heap.empty)
       exact call_own (E:=E0 P .own f (cloneC t k)) hI (hev n) hc hW hinv ha' hx h h2 (is':=[]) (q:=.im [] false) rfl (fun _=>hcs) (fun q=>(q rfl).elim)
     | some ad =>
       obtain ⟨n,e,st,h,h1,h2⟩:=clone_none (P:=P) (h:=.own) (f:=f) (t:=t) (k:=k) ht (ad:=ad) (c:=c) (H:=Heap.empty)
       exact call_own (E:=E0 P .own f (cloneC t k)) hI (hev n) hc hW hinv ha' hx h h2 (is':=[]) (q:=.im [] false) rfl (fun _=>hcs) (fun q=>(q rfl).elim)
    ·have hx:expAs g.H [.im xs fl]=some ([.im xs false],[]):=rfl
     have hb:evBin P .eql t false true (.im xs false) (.im [] true)=some (.val (.bool false)):=by
      cases xs with
      | nil=>exact (h0 rfl).elim
      | cons y ys=>exact bn_im ht
     have he:elems (Heap.empty.grow 1) k (.im xs false)=some (xs,[]):=by unfold elems; simp only [hlen,if_true]
     obtain ⟨n,e,st,h,h1,h2⟩:=clone_full (P:=P) (h:=.own) (f:=f) (t:=t) (k:=k) (H:=Heap.empty) hb he h0 hm
     have hq:expV st.h (.sl Heap.empty.n k xs.length 0 xs.length)=some (.im ys false,[Heap.empty.n]):=by
      rw [h1]
      simp [expV,expA,expC,hys]
     exact call_own (E:=E0 P .own f (cloneC t k)) hI (hev n) hc hW hinv ha hx h h2 hq (fun _=>hcs) (fun _=>hcs)
   ·cases h
  ·cases h
 ·cases h
end
end Go.Evl.Zone

namespace Go.Evl.Zone
open Go Go.Evl
set_option maxRecDepth 100000
theorem ok13:(env Proofs.Tryz.prog).code 13=some c13:=by kernel_rfl
theorem ok44:(env Proofs.Tryz.prog).code 44=some c44:=by kernel_rfl
theorem ok45:(env Proofs.Tryz.prog).code 45=some c45:=by kernel_rfl
theorem ok57:(env Proofs.Tryz.prog).code 57=some c57:=by kernel_rfl
theorem ok65:(env Proofs.Tryz.prog).code 65=some c65:=by kernel_rfl
theorem ok71:(env Proofs.Tryz.prog).code 71=some c71:=by kernel_rfl
theorem ok74:(env Proofs.Tryz.prog).code 74=some c74:=by kernel_rfl
theorem ok77:(env Proofs.Tryz.prog).code 77=some c77:=by kernel_rfl
theorem ok81:(env Proofs.Tryz.prog).code 81=some c81:=by kernel_rfl
theorem ok91:(env Proofs.Tryz.prog).code 91=some c91:=by kernel_rfl
theorem ok105:(env Proofs.Tryz.prog).code 105=some c105:=by kernel_rfl
theorem ok112:(env Proofs.Tryz.prog).code 112=some c112:=by kernel_rfl
theorem ok115:(env Proofs.Tryz.prog).code 115=some c115:=by kernel_rfl
theorem ok116:(env Proofs.Tryz.prog).code 116=some c116:=by kernel_rfl
theorem ok122:(env Proofs.Tryz.prog).code 122=some c122:=by kernel_rfl
theorem ok128:(env Proofs.Tryz.prog).code 128=some c128:=by kernel_rfl
theorem ok140:(env Proofs.Tryz.prog).code 140=some c140:=by kernel_rfl
theorem ok165:(env Proofs.Tryz.prog).code 165=some c165:=by kernel_rfl
theorem ok166:(env Proofs.Tryz.prog).code 166=some c166:=by kernel_rfl
theorem ok184:(env Proofs.Tryz.prog).code 184=some c184:=by kernel_rfl
theorem ok195:(env Proofs.Tryz.prog).code 195=some c195:=by kernel_rfl
theorem ok198:(env Proofs.Tryz.prog).code 198=some c198:=by kernel_rfl
theorem ok207:(env Proofs.Tryz.prog).code 207=some c207:=by kernel_rfl
theorem ok211:(env Proofs.Tryz.prog).code 211=some c211:=by kernel_rfl
theorem ok218:(env Proofs.Tryz.prog).code 218=some c218:=by kernel_rfl
end Go.Evl.Zone

namespace Go.Evl.Zone
open Go Go.Evl
set_option maxRecDepth 100000
theorem ok10:(env Proofs.Tryz.prog).code 10=some c10:=by kernel_rfl
theorem ok11:(env Proofs.Tryz.prog).code 11=some c11:=by kernel_rfl
theorem ok22:(env Proofs.Tryz.prog).code 22=some c22:=by kernel_rfl
theorem ok23:(env Proofs.Tryz.prog).code 23=some c23:=by kernel_rfl
theorem ok26:(env Proofs.Tryz.prog).code 26=some c26:=by kernel_rfl
theorem ok28:(env Proofs.Tryz.prog).code 28=some c28:=by kernel_rfl
theorem ok43:(env Proofs.Tryz.prog).code 43=some c43:=by kernel_rfl
theorem ok49:(env Proofs.Tryz.prog).code 49=some c49:=by kernel_rfl
theorem ok58:(env Proofs.Tryz.prog).code 58=some c58:=by kernel_rfl
theorem ok64:(env Proofs.Tryz.prog).code 64=some c64:=by kernel_rfl
theorem ok68:(env Proofs.Tryz.prog).code 68=some c68:=by kernel_rfl
theorem ok79:(env Proofs.Tryz.prog).code 79=some c79:=by kernel_rfl
theorem ok82:(env Proofs.Tryz.prog).code 82=some c82:=by kernel_rfl
theorem ok97:(env Proofs.Tryz.prog).code 97=some c97:=by kernel_rfl
theorem ok100:(env Proofs.Tryz.prog).code 100=some c100:=by kernel_rfl
theorem ok106:(env Proofs.Tryz.prog).code 106=some c106:=by kernel_rfl
theorem ok114:(env Proofs.Tryz.prog).code 114=some c114:=by kernel_rfl
theorem ok120:(env Proofs.Tryz.prog).code 120=some c120:=by kernel_rfl
theorem ok124:(env Proofs.Tryz.prog).code 124=some c124:=by kernel_rfl
theorem ok132:(env Proofs.Tryz.prog).code 132=some c132:=by kernel_rfl
theorem ok133:(env Proofs.Tryz.prog).code 133=some c133:=by kernel_rfl
theorem ok151:(env Proofs.Tryz.prog).code 151=some c151:=by kernel_rfl
theorem ok164:(env Proofs.Tryz.prog).code 164=some c164:=by kernel_rfl
theorem ok167:(env Proofs.Tryz.prog).code 167=some c167:=by kernel_rfl
theorem ok175:(env Proofs.Tryz.prog).code 175=some c175:=by kernel_rfl
theorem ok176:(env Proofs.Tryz.prog).code 176=some c176:=by kernel_rfl
theorem ok187:(env Proofs.Tryz.prog).code 187=some c187:=by kernel_rfl
theorem ok193:(env Proofs.Tryz.prog).code 193=some c193:=by kernel_rfl
theorem ok194:(env Proofs.Tryz.prog).code 194=some c194:=by kernel_rfl
theorem ok208:(env Proofs.Tryz.prog).code 208=some c208:=by kernel_rfl
theorem ok227:(env Proofs.Tryz.prog).code 227=some c227:=by kernel_rfl
end Go.Evl.Zone

namespace Go.Evl.Zone
open Go Go.Evl
set_option maxRecDepth 100000
theorem ok18:(env Proofs.Tryz.prog).code 18=some c18:=by kernel_rfl
theorem ok34:(env Proofs.Tryz.prog).code 34=some c34:=by kernel_rfl
theorem ok37:(env Proofs.Tryz.prog).code 37=some c37:=by kernel_rfl
theorem ok52:(env Proofs.Tryz.prog).code 52=some c52:=by kernel_rfl
theorem ok55:(env Proofs.Tryz.prog).code 55=some c55:=by kernel_rfl
theorem ok59:(env Proofs.Tryz.prog).code 59=some c59:=by kernel_rfl
theorem ok62:(env Proofs.Tryz.prog).code 62=some c62:=by kernel_rfl
theorem ok69:(env Proofs.Tryz.prog).code 69=some c69:=by kernel_rfl
theorem ok75:(env Proofs.Tryz.prog).code 75=some c75:=by kernel_rfl
theorem ok76:(env Proofs.Tryz.prog).code 76=some c76:=by kernel_rfl
theorem ok86:(env Proofs.Tryz.prog).code 86=some c86:=by kernel_rfl
theorem ok94:(env Proofs.Tryz.prog).code 94=some c94:=by kernel_rfl
theorem ok96:(env Proofs.Tryz.prog).code 96=some c96:=by kernel_rfl
theorem ok107:(env Proofs.Tryz.prog).code 107=some c107:=by kernel_rfl
theorem ok108:(env Proofs.Tryz.prog).code 108=some c108:=by kernel_rfl
theorem ok109:(env Proofs.Tryz.prog).code 109=some c109:=by kernel_rfl
theorem ok119:(env Proofs.Tryz.prog).code 119=some c119:=by kernel_rfl
theorem ok123:(env Proofs.Tryz.prog).code 123=some c123:=by kernel_rfl
theorem ok130:(env Proofs.Tryz.prog).code 130=some c130:=by kernel_rfl
theorem ok134:(env Proofs.Tryz.prog).code 134=some c134:=by kernel_rfl
theorem ok135:(env Proofs.Tryz.prog).code 135=some c135:=by kernel_rfl
theorem ok136:(env Proofs.Tryz.prog).code 136=some c136:=by kernel_rfl
theorem ok144:(env Proofs.Tryz.prog).code 144=some c144:=by kernel_rfl
theorem ok146:(env Proofs.Tryz.prog).code 146=some c146:=by kernel_rfl
theorem ok155:(env Proofs.Tryz.prog).code 155=some c155:=by kernel_rfl
theorem ok161:(env Proofs.Tryz.prog).code 161=some c161:=by kernel_rfl
theorem ok170:(env Proofs.Tryz.prog).code 170=some c170:=by kernel_rfl
theorem ok178:(env Proofs.Tryz.prog).code 178=some c178:=by kernel_rfl
theorem ok188:(env Proofs.Tryz.prog).code 188=some c188:=by kernel_rfl
theorem ok244:(env Proofs.Tryz.prog).code 244=some c244:=by kernel_rfl
theorem ok249:(env Proofs.Tryz.prog).code 249=some c249:=by kernel_rfl
end Go.Evl.Zone

namespace Go.Evl.Zone
open Go Go.Evl
set_option maxRecDepth 100000
theorem ok8:(env Proofs.Tryz.prog).code 8=some c8:=by kernel_rfl
theorem ok12:(env Proofs.Tryz.prog).code 12=some c12:=by kernel_rfl
theorem ok21:(env Proofs.Tryz.prog).code 21=some c21:=by kernel_rfl
theorem ok27:(env Proofs.Tryz.prog).code 27=some c27:=by kernel_rfl
theorem ok29:(env Proofs.Tryz.prog).code 29=some c29:=by kernel_rfl
theorem ok61:(env Proofs.Tryz.prog).code 61=some c61:=by kernel_rfl
theorem ok66:(env Proofs.Tryz.prog).code 66=some c66:=by kernel_rfl
theorem ok70:(env Proofs.Tryz.prog).code 70=some c70:=by kernel_rfl
theorem ok72:(env Proofs.Tryz.prog).code 72=some c72:=by kernel_rfl
theorem ok90:(env Proofs.Tryz.prog).code 90=some c90:=by kernel_rfl
theorem ok110:(env Proofs.Tryz.prog).code 110=some c110:=by kernel_rfl
theorem ok127:(env Proofs.Tryz.prog).code 127=some c127:=by kernel_rfl
theorem ok138:(env Proofs.Tryz.prog).code 138=some c138:=by kernel_rfl
theorem ok139:(env Proofs.Tryz.prog).code 139=some c139:=by kernel_rfl
theorem ok143:(env Proofs.Tryz.prog).code 143=some c143:=by kernel_rfl
theorem ok145:(env Proofs.Tryz.prog).code 145=some c145:=by kernel_rfl
theorem ok148:(env Proofs.Tryz.prog).code 148=some c148:=by kernel_rfl
theorem ok156:(env Proofs.Tryz.prog).code 156=some c156:=by kernel_rfl
theorem ok157:(env Proofs.Tryz.prog).code 157=some c157:=by kernel_rfl
theorem ok162:(env Proofs.Tryz.prog).code 162=some c162:=by kernel_rfl
theorem ok163:(env Proofs.Tryz.prog).code 163=some c163:=by kernel_rfl
theorem ok168:(env Proofs.Tryz.prog).code 168=some c168:=by kernel_rfl
theorem ok169:(env Proofs.Tryz.prog).code 169=some c169:=by kernel_rfl
theorem ok171:(env Proofs.Tryz.prog).code 171=some c171:=by kernel_rfl
theorem ok172:(env Proofs.Tryz.prog).code 172=some c172:=by kernel_rfl
theorem ok179:(env Proofs.Tryz.prog).code 179=some c179:=by kernel_rfl
theorem ok182:(env Proofs.Tryz.prog).code 182=some c182:=by kernel_rfl
theorem ok189:(env Proofs.Tryz.prog).code 189=some c189:=by kernel_rfl
theorem ok197:(env Proofs.Tryz.prog).code 197=some c197:=by kernel_rfl
theorem ok217:(env Proofs.Tryz.prog).code 217=some c217:=by kernel_rfl
theorem ok219:(env Proofs.Tryz.prog).code 219=some c219:=by kernel_rfl
theorem ok226:(env Proofs.Tryz.prog).code 226=some c226:=by kernel_rfl
end Go.Evl.Zone

namespace Go.Evl.Zone
open Go Go.Evl
set_option maxRecDepth 100000
theorem ok5:(env Proofs.Tryz.prog).code 5=some c5:=by kernel_rfl
theorem ok9:(env Proofs.Tryz.prog).code 9=some c9:=by kernel_rfl
theorem ok17:(env Proofs.Tryz.prog).code 17=some c17:=by kernel_rfl
theorem ok20:(env Proofs.Tryz.prog).code 20=some c20:=by kernel_rfl
theorem ok25:(env Proofs.Tryz.prog).code 25=some c25:=by kernel_rfl
theorem ok35:(env Proofs.Tryz.prog).code 35=some c35:=by kernel_rfl
theorem ok41:(env Proofs.Tryz.prog).code 41=some c41:=by kernel_rfl
theorem ok54:(env Proofs.Tryz.prog).code 54=some c54:=by kernel_rfl
theorem ok67:(env Proofs.Tryz.prog).code 67=some c67:=by kernel_rfl
theorem ok73:(env Proofs.Tryz.prog).code 73=some c73:=by kernel_rfl
theorem ok78:(env Proofs.Tryz.prog).code 78=some c78:=by kernel_rfl
theorem ok80:(env Proofs.Tryz.prog).code 80=some c80:=by kernel_rfl
theorem ok88:(env Proofs.Tryz.prog).code 88=some c88:=by kernel_rfl
theorem ok89:(env Proofs.Tryz.prog).code 89=some c89:=by kernel_rfl
theorem ok92:(env Proofs.Tryz.prog).code 92=some c92:=by kernel_rfl
theorem ok98:(env Proofs.Tryz.prog).code 98=some c98:=by kernel_rfl
theorem ok103:(env Proofs.Tryz.prog).code 103=some c103:=by kernel_rfl
theorem ok104:(env Proofs.Tryz.prog).code 104=some c104:=by kernel_rfl
theorem ok117:(env Proofs.Tryz.prog).code 117=some c117:=by kernel_rfl
theorem ok118:(env Proofs.Tryz.prog).code 118=some c118:=by kernel_rfl
theorem ok125:(env Proofs.Tryz.prog).code 125=some c125:=by kernel_rfl
theorem ok131:(env Proofs.Tryz.prog).code 131=some c131:=by kernel_rfl
theorem ok137:(env Proofs.Tryz.prog).code 137=some c137:=by kernel_rfl
theorem ok147:(env Proofs.Tryz.prog).code 147=some c147:=by kernel_rfl
theorem ok152:(env Proofs.Tryz.prog).code 152=some c152:=by kernel_rfl
theorem ok153:(env Proofs.Tryz.prog).code 153=some c153:=by kernel_rfl
theorem ok159:(env Proofs.Tryz.prog).code 159=some c159:=by kernel_rfl
theorem ok202:(env Proofs.Tryz.prog).code 202=some c202:=by kernel_rfl
theorem ok205:(env Proofs.Tryz.prog).code 205=some c205:=by kernel_rfl
theorem ok210:(env Proofs.Tryz.prog).code 210=some c210:=by kernel_rfl
theorem ok216:(env Proofs.Tryz.prog).code 216=some c216:=by kernel_rfl
theorem ok220:(env Proofs.Tryz.prog).code 220=some c220:=by kernel_rfl
theorem ok221:(env Proofs.Tryz.prog).code 221=some c221:=by kernel_rfl
end Go.Evl.Zone

namespace Go.Evl.Zone
open Go Go.Evl
set_option maxRecDepth 100000
theorem ok3:(env Proofs.Tryz.prog).code 3=some c3:=by kernel_rfl
theorem ok14:(env Proofs.Tryz.prog).code 14=some c14:=by kernel_rfl
theorem ok15:(env Proofs.Tryz.prog).code 15=some c15:=by kernel_rfl
theorem ok16:(env Proofs.Tryz.prog).code 16=some c16:=by kernel_rfl
theorem ok19:(env Proofs.Tryz.prog).code 19=some c19:=by kernel_rfl
theorem ok30:(env Proofs.Tryz.prog).code 30=some c30:=by kernel_rfl
theorem ok42:(env Proofs.Tryz.prog).code 42=some c42:=by kernel_rfl
theorem ok46:(env Proofs.Tryz.prog).code 46=some c46:=by kernel_rfl
theorem ok50:(env Proofs.Tryz.prog).code 50=some c50:=by kernel_rfl
theorem ok53:(env Proofs.Tryz.prog).code 53=some c53:=by kernel_rfl
theorem ok56:(env Proofs.Tryz.prog).code 56=some c56:=by kernel_rfl
theorem ok60:(env Proofs.Tryz.prog).code 60=some c60:=by kernel_rfl
theorem ok63:(env Proofs.Tryz.prog).code 63=some c63:=by kernel_rfl
theorem ok83:(env Proofs.Tryz.prog).code 83=some c83:=by kernel_rfl
theorem ok84:(env Proofs.Tryz.prog).code 84=some c84:=by kernel_rfl
theorem ok85:(env Proofs.Tryz.prog).code 85=some c85:=by kernel_rfl
theorem ok87:(env Proofs.Tryz.prog).code 87=some c87:=by kernel_rfl
theorem ok99:(env Proofs.Tryz.prog).code 99=some c99:=by kernel_rfl
theorem ok113:(env Proofs.Tryz.prog).code 113=some c113:=by kernel_rfl
theorem ok121:(env Proofs.Tryz.prog).code 121=some c121:=by kernel_rfl
theorem ok126:(env Proofs.Tryz.prog).code 126=some c126:=by kernel_rfl
theorem ok129:(env Proofs.Tryz.prog).code 129=some c129:=by kernel_rfl
theorem ok160:(env Proofs.Tryz.prog).code 160=some c160:=by kernel_rfl
theorem ok174:(env Proofs.Tryz.prog).code 174=some c174:=by kernel_rfl
theorem ok177:(env Proofs.Tryz.prog).code 177=some c177:=by kernel_rfl
theorem ok180:(env Proofs.Tryz.prog).code 180=some c180:=by kernel_rfl
theorem ok183:(env Proofs.Tryz.prog).code 183=some c183:=by kernel_rfl
theorem ok185:(env Proofs.Tryz.prog).code 185=some c185:=by kernel_rfl
theorem ok186:(env Proofs.Tryz.prog).code 186=some c186:=by kernel_rfl
theorem ok206:(env Proofs.Tryz.prog).code 206=some c206:=by kernel_rfl
theorem ok212:(env Proofs.Tryz.prog).code 212=some c212:=by kernel_rfl
theorem ok245:(env Proofs.Tryz.prog).code 245=some c245:=by kernel_rfl
theorem ok248:(env Proofs.Tryz.prog).code 248=some c248:=by kernel_rfl
end Go.Evl.Zone

namespace Go.Evl.Zone
open Go Go.Evl
set_option maxRecDepth 100000
theorem br {b:Bool} {x y:Option CF} {v:CF} {Q:Prop} (hx:x=some v→Q) (hy:y=some v→Q):cond b x y=some v→Q:=by
 cases b
 ·exact hy
 ·exact hx
theorem lf {E:Env} {f n:Nat} {c v:CF} (h:E.code n=some c):cond (Nat.beq f n) (some c) none=some v→E.code f=some v:=by
 intro q
 cases hb:Nat.beq f n
 ·rw [hb] at q; cases q
 ·rw [hb] at q
  obtain rfl:=Nat.eq_of_beq_eq_true hb
  rw [h]; exact q
theorem tab_ok:TabOK (env Proofs.Tryz.prog):=by
 intro f cf h
 change tab f=some cf at h
 unfold tab at h
 exact (br (br (br (br (br (br (br (lf ok3)
 (lf ok5))
 (br (lf ok8)
 (br (lf ok9)
 (lf ok10))))
 (br (br (lf ok11)
 (br (lf ok12)
 (lf ok13)))
 (br (lf ok14)
 (br (lf ok15)
 (lf ok16)))))
 (br (br (br (lf ok17)
 (br (lf ok18)
 (lf ok19)))
 (br (lf ok20)
 (br (lf ok21)
 (lf ok22))))
 (br (br (lf ok23)
 (br (lf ok25)
 (lf ok26)))
 (br (lf ok27)
 (br (lf ok28)
 (lf ok29))))))
 (br (br (br (br (lf ok30)
 (lf ok34))
 (br (lf ok35)
 (br (lf ok37)
 (lf ok41))))
 (br (br (lf ok42)
 (br (lf ok43)
 (lf ok44)))
 (br (lf ok45)
 (br (lf ok46)
 (lf ok49)))))
 (br (br (br (lf ok50)
 (br (lf ok52)
 (lf ok53)))
 (br (lf ok54)
 (br (lf ok55)
 (lf ok56))))
 (br (br (lf ok57)
 (br (lf ok58)
 (lf ok59)))
 (br (lf ok60)
 (br (lf ok61)
 (lf ok62)))))))
 (br (br (br (br (br (lf ok63)
 (lf ok64))
 (br (lf ok65)
 (br (lf ok66)
 (lf ok67))))
 (br (br (lf ok68)
 (br (lf ok69)
 (lf ok70)))
 (br (lf ok71)
 (br (lf ok72)
 (lf ok73)))))
 (br (br (br (lf ok74)
 (br (lf ok75)
 (lf ok76)))
 (br (lf ok77)
 (br (lf ok78)
 (lf ok79))))
 (br (br (lf ok80)
 (br (lf ok81)
 (lf ok82)))
 (br (lf ok83)
 (br (lf ok84)
 (lf ok85))))))
 (br (br (br (br (lf ok86)
 (lf ok87))
 (br (lf ok88)
 (br (lf ok89)
 (lf ok90))))
 (br (br (lf ok91)
 (br (lf ok92)
 (lf ok94)))
 (br (lf ok96)
 (br (lf ok97)
 (lf ok98)))))
 (br (br (br (lf ok99)
 (br (lf ok100)
 (lf ok103)))
 (br (lf ok104)
 (br (lf ok105)
 (lf ok106))))
 (br (br (lf ok107)
 (br (lf ok108)
 (lf ok109)))
 (br (lf ok110)
 (br (lf ok112)
 (lf ok113))))))))
 (br (br (br (br (br (br (lf ok114)
 (lf ok115))
 (br (lf ok116)
 (br (lf ok117)
 (lf ok118))))
 (br (br (lf ok119)
 (br (lf ok120)
 (lf ok121)))
 (br (lf ok122)
 (br (lf ok123)
 (lf ok124)))))
 (br (br (br (lf ok125)
 (br (lf ok126)
 (lf ok127)))
 (br (lf ok128)
 (br (lf ok129)
 (lf ok130))))
 (br (br (lf ok131)
 (br (lf ok132)
 (lf ok133)))
 (br (lf ok134)
 (br (lf ok135)
 (lf ok136))))))
 (br (br (br (br (lf ok137)
 (lf ok138))
 (br (lf ok139)
 (br (lf ok140)
 (lf ok143))))
 (br (br (lf ok144)
 (br (lf ok145)
 (lf ok146)))
 (br (lf ok147)
 (br (lf ok148)
 (lf ok151)))))
 (br (br (br (lf ok152)
 (br (lf ok153)
 (lf ok155)))
 (br (lf ok156)
 (br (lf ok157)
 (lf ok159))))
 (br (br (lf ok160)
 (br (lf ok161)
 (lf ok162)))
 (br (lf ok163)
 (br (lf ok164)
 (lf ok165)))))))
 (br (br (br (br (br (lf ok166)
 (lf ok167))
 (br (lf ok168)
 (br (lf ok169)
 (lf ok170))))
 (br (br (lf ok171)
 (br (lf ok172)
 (lf ok174)))
 (br (lf ok175)
 (br (lf ok176)
 (lf ok177)))))
 (br (br (br (lf ok178)
 (br (lf ok179)
 (lf ok180)))
 (br (lf ok182)
 (br (lf ok183)
 (lf ok184))))
 (br (br (lf ok185)
 (br (lf ok186)
 (lf ok187)))
 (br (lf ok188)
 (br (lf ok189)
 (lf ok193))))))
 (br (br (br (br (lf ok194)
 (br (lf ok195)
 (lf ok197)))
 (br (lf ok198)
 (br (lf ok202)
 (lf ok205))))
 (br (br (lf ok206)
 (br (lf ok207)
 (lf ok208)))
 (br (lf ok210)
 (br (lf ok211)
 (lf ok212)))))
 (br (br (br (lf ok216)
 (br (lf ok217)
 (lf ok218)))
 (br (lf ok219)
 (br (lf ok220)
 (lf ok221))))
 (br (br (lf ok226)
 (br (lf ok227)
 (lf ok244)))
 (br (lf ok245)
 (br (lf ok248)
 (lf ok249))))))))) h
end Go.Evl.Zone

namespace Go.Evl.Zone
open Go Go.Evl Go.Proofs Go.RowKit Go.ChangeShapes Go.WideShapes Go.ChangeAt
set_option maxRecDepth 100000
noncomputable abbrev P0:Program:=Tryz.prog
def InvW (g:G):Prop:=True
theorem invW_ok:InvOK InvW where
 mono:=fun g g' hW e h=>trivial
 same:=fun g g' hw hz h=>trivial
def Still (p:List PV→Heap→Option ORes):Prop:=∀ args,(∀ H,p args H=none)∨∃ v,∀ H,p args H=some ⟨v,H,[],some []⟩
theorem still_split:Still pSplit:=by
 intro args
 unfold pSplit
 split
 ·split
  ·split
   ·exact .inr ⟨_,fun _=>rfl⟩
   ·exact .inl fun _=>rfl
  ·exact .inl fun _=>rfl
 ·exact .inl fun _=>rfl
theorem still_itoa:Still pItoa:=by
 intro args
 unfold pItoa
 split
 ·split
  ·exact .inr ⟨_,fun _=>rfl⟩
  ·exact .inl fun _=>rfl
 ·exact .inl fun _=>rfl
theorem still_atoi:Still pAtoi:=by
 intro args
 unfold pAtoi
 split
 ·split
  ·split
   ·exact .inr ⟨_,fun _=>rfl⟩
   ·exact .inr ⟨_,fun _=>rfl⟩
   ·exact .inr ⟨_,fun _=>rfl⟩
  ·exact .inl fun _=>rfl
 ·exact .inl fun _=>rfl
theorem still_trunc:Still pTrunc:=by
 intro args
 unfold pTrunc
 split
 ·split
  ·exact .inl fun _=>rfl
  ·exact .inr ⟨_,fun _=>rfl⟩
 ·exact .inl fun _=>rfl
theorem Still.out {p:List PV→Heap→Option ORes} (hs:Still p) {args:List PV} {H:Heap} {r:ORes} (h:p args H=some r):r.h=H∧r.wr=[]∧∀ H',p args H'=some ⟨r.v,H'.patch r.h r.wr,r.wr,r.rd⟩:=by
 rcases hs args with q | ⟨v,q⟩
 ·rw [q] at h; cases h
 ·rw [q] at h
  simp only [Option.some.injEq] at h
  subst h
  exact ⟨rfl,rfl,fun H'=>by rw [patch_nil]; exact q H'⟩
theorem still_compare:Still pCompare:=by
 intro args
 unfold pCompare
 split
 ·exact .inr ⟨_,fun _=>rfl⟩
 ·exact .inl fun _=>rfl
theorem join_out {args:List PV} {H:Heap} {r:ORes} (h:pJoin args H=some r):r.h=H∧r.wr=[]∧∀ H',Agree H' H r.rd→pJoin args H'=some ⟨r.v,H'.patch r.h r.wr,r.wr,r.rd⟩:=by
 unfold pJoin at h
 split at h
 ·simp at h
 ·rename_i x q hnv
  split at h
  ·rename_i xs is hel
   split at h
   ·rename_i l hl
    split at h
    ·rename_i hc
     simp only [Option.some.injEq] at h; subst h
     refine ⟨rfl,rfl,fun H' ha=>?_⟩
     rw [patch_nil]
     have hel':=elems_local hel (show ∀ i∈is,H'.at_ i=H.at_ i from ha.2)
     cases x with
     | val y=>exact (hnv y rfl).elim
     | _=>simp only [pJoin,hel',hl,if_pos hc]
    ·simp at h
   ·simp at h
  ·simp at h
 ·simp at h
theorem still_cloneF {k:Nat}:Still (pCloneF k):=by
 intro args
 unfold pCloneF
 split
 ·split
  ·split
   ·exact .inr ⟨_,fun _=>rfl⟩
   ·exact .inl fun _=>rfl
  ·exact .inl fun _=>rfl
 ·exact .inl fun _=>rfl
def Quiet (p:List PV→Heap→Option ORes):Prop:=∀ args H r,p args H=some r→r.h=H∧r.wr=[]∧∀ H',Agree H' H r.rd→p args H'=some ⟨r.v,H'.patch r.h r.wr,r.wr,r.rd⟩
theorem join_quiet:Quiet pJoin:=fun _ _ _ h=>join_out h
theorem Still.quiet {p:List PV→Heap→Option ORes} (hs:Still p):Quiet p:=fun args H r h=>let ⟨a,b,c⟩:=hs.out h; ⟨a,b,fun H' _=>c H'⟩
structure Lays1 (p:List PV→Heap→Option ORes):Prop where
 fr:∀ args H r,p args H=some r→Fr H r.h r.wr
 n:∀ args H r,p args H=some r→r.h.n≠H.n
 dd:∀ args H r,p args H=some r→Dd H r.h
theorem lays_of {p:List PV→Heap→Option ORes} (h:∀ args H r,p args H=some r→r.h.n=H.n+1∧∀ i,i < H.n→r.h.at_ i=H.at_ i):Lays1 p where
 fr:=fun args H r q=>let ⟨a,b⟩:=h _ _ _ q; ⟨by omega,fun i hi _=>b i hi⟩
 n:=fun args H r q=>let ⟨a,b⟩:=h _ _ _ q; by omega
 dd:=fun args H r q=>let ⟨a,b⟩:=h _ _ _ q; fun i hi hd=>by rw [b i hi]; exact hd
theorem row_kept {H:Heap} {b:Blk} (i:Nat) (hi:i < H.n):((H.grow 1).put H.n b).at_ i=H.at_ i:=by
 show (if i=H.n then _ else (if i < H.n then _ else _))=_
 rw [if_neg (by omega),if_pos hi]
theorem clone_out {k:Nat} {args:List PV} {H:Heap} {r:ORes} (h:pClone k args H=some r):r.h.n=H.n+1∧∀ i,i < H.n→r.h.at_ i=H.at_ i:=by
 unfold pClone at h
 split at h
 ·split at h
  ·cases h
  ·split at h
   ·split at h
    ·simp only [Option.some.injEq] at h; subst h
     exact ⟨rfl,fun i hi=>if_pos hi⟩
    ·split at h
     ·simp only [Option.some.injEq] at h; subst h
      exact ⟨rfl,row_kept⟩
     ·cases h
   ·cases h
 ·cases h
theorem grow_out {k:Nat} {args:List PV} {H:Heap} {r:ORes} (h:pGrow k args H=some r):r.h.n=H.n+1∧∀ i,i < H.n→r.h.at_ i=H.at_ i:=by
 unfold pGrow at h
 split at h
 ·split at h
  ·simp only [Option.some.injEq] at h; subst h
   exact ⟨rfl,fun i hi=>if_pos hi⟩
  ·split at h
   ·simp only [Option.some.injEq] at h; subst h
    exact ⟨rfl,row_kept⟩
   ·cases h
 ·cases h
theorem row_put {H:Heap} {r:Nat} {b:Blk} (i:Nat) (hi:i < H.n) (hr:i≠r):((H.grow 1).put r b).at_ i=H.at_ i:=by
 show (if i=r then _ else (if i < H.n then _ else _))=_
 rw [if_neg hr,if_pos hi]
theorem lays_of1 {p:List PV→Heap→Option ORes} (h:∀ args H r,p args H=some r→r.h.n=H.n+1∧(∀ i,i < H.n→i∉r.wr→r.h.at_ i=H.at_ i)∧∀ i,i < H.n→H.at_ i = .dead→r.h.at_ i = .dead):Lays1 p where
 fr:=fun args H r q=>let ⟨a,b,c⟩:=h _ _ _ q; ⟨by omega,b⟩
 n:=fun args H r q=>let ⟨a,b,c⟩:=h _ _ _ q; by omega
 dd:=fun args H r q=>let ⟨a,b,c⟩:=h _ _ _ q; c
theorem ins_out {k:Nat} {args:List PV} {H:Heap} {r:ORes} (h:pIns k args H=some r):r.h.n=H.n+1∧(∀ i,i < H.n→i∉r.wr→r.h.at_ i=H.at_ i)∧∀ i,i < H.n→H.at_ i = .dead→r.h.at_ i = .dead:=by
 unfold pIns at h
 split at h
 ·split at h
  ·split at h
   ·split at h
    ·simp only [Option.some.injEq] at h; subst h
     exact ⟨rfl,fun i hi _=>row_kept i hi,fun i hi hd=>by rw [row_kept i hi]; exact hd⟩
    ·cases h
   ·split at h
    ·rename_i hrow
     split at h
     ·simp only [Option.some.injEq] at h; subst h
      refine ⟨rfl,fun i hi hn=>row_put i hi (by simpa using hn),fun i hi hd=>?_⟩
      rw [row_put i hi]
      ·exact hd
      ·rintro rfl; rw [hd] at hrow; cases hrow
     ·cases h
    ·cases h
   ·cases h
  ·cases h
 ·cases h
theorem sort_out {f:List (List PV)→Option (List (List PV))} {x:PV} {H:Heap} {r:ORes} (h:sortRow f x H=some r):r.h.n=H.n+1∧(∀ i,i < H.n→i∉r.wr→r.h.at_ i=H.at_ i)∧∀ i,i < H.n→H.at_ i = .dead→r.h.at_ i = .dead:=by
 unfold sortRow at h
 split at h
 ·simp only [Option.some.injEq] at h; subst h
  exact ⟨rfl,fun i hi _=>if_pos hi,fun i hi hd=>by rw [show ((H.grow 1).at_ i)=H.at_ i from if_pos hi]; exact hd⟩
 ·split at h
  ·rename_i hrow
   split at h
   ·split at h
    ·simp only [Option.some.injEq] at h; subst h
     refine ⟨rfl,fun i hi hn=>row_put i hi (by simpa using hn),fun i hi hd=>?_⟩
     rw [row_put i hi]
     ·exact hd
     ·rintro rfl; rw [hd] at hrow; cases hrow
    ·cases h
   ·cases h
  ·cases h
 ·cases h
theorem ins_lays {k:Nat}:Lays1 (pIns k):=lays_of1 fun _ _ _=>ins_out
theorem sortS_lays {f:FuncId}:Lays1 (pSortS f):=lays_of1 fun args H r h=>by
 unfold pSortS at h
 split at h
 ·split at h
  ·exact sort_out h
  ·cases h
 ·cases h
theorem sortI_lays:Lays1 pSortI:=lays_of1 fun args H r h=>by
 unfold pSortI at h
 split at h
 ·exact sort_out h
 ·cases h
theorem clone_lays {k:Nat}:Lays1 (pClone k):=lays_of fun _ _ _=>clone_out
theorem grow_lays {k:Nat}:Lays1 (pGrow k):=lays_of fun _ _ _=>grow_out
theorem cond_some {α:Type} {b:Bool} {x y p:α} (h:cond b (some x) (some y)=some p):(b=true∧p=x)∨(b=false∧p=y):=by
 cases b
 ·exact .inr ⟨rfl,(Option.some.inj h).symm⟩
 ·exact .inl ⟨rfl,(Option.some.inj h).symm⟩
theorem prim_kind {c f:FuncId} {p:List PV→Heap→Option ORes} (hp:prim c f=some p):Quiet p∨Lays1 p:=by
 unfold prim at hp
 split at hp
 all_goals first
  | (cases hp; exact .inl still_trunc.quiet)
  | (cases hp; exact .inl still_split.quiet)
  | (cases hp; exact .inl still_itoa.quiet)
  | (cases hp; exact .inl still_atoi.quiet)
  | (cases hp; exact .inl join_quiet)
  | (cases hp; exact .inl still_compare.quiet)
  | (cases hp; exact .inr clone_lays)
  | (cases hp; exact .inr grow_lays)
  | (cases hp; exact .inr ins_lays)
  | (cases hp; exact .inr sortS_lays)
  | (cases hp; exact .inr sortI_lays)
  | cases hp
  | (rcases cond_some hp with ⟨_,rfl⟩ | ⟨_,rfl⟩
     ·exact .inl still_cloneF.quiet
     ·exact .inr clone_lays)
theorem prim_fr:PrimFr (env P0) where
 fr:=fun c f p hp args H r h=>by
  rcases prim_kind hp with q | q
  ·obtain ⟨h1,h2,_⟩:=q _ _ _ h
   rw [h1,h2]; exact Fr.refl _ _
  ·exact q.fr _ _ _ h
 loc:=fun c f p hp args H r h hn=>by
  rcases prim_kind hp with q | q
  ·obtain ⟨h1,h2,h3⟩:=q _ _ _ h
   exact ⟨fun i _=>by rw [h1],h3⟩
  ·exact (q.n _ _ _ h hn).elim
theorem prim_dd:PrimDd (env P0) where
 dd:=fun c f p hp args H r h=>by
  rcases prim_kind hp with q | q
  ·obtain ⟨h1,_,_⟩:=q _ _ _ h
   rw [h1]; exact fun _ _ h=>h
  ·exact q.dd _ _ _ h
end Go.Evl.Zone

namespace Go.Evl.Zone
open Go Go.Evl Go.Proofs Go.RowKit Go.ChangeShapes Go.WideShapes Go.ChangeAt
set_option maxRecDepth 100000
theorem ent55:Proofs.Enters P0 158:=enters_of Tryz.func158 (by kernel_rfl) rfl
theorem entG:Proofs.Enters P0 232:=enters_of Tryz.func232 (by kernel_rfl) rfl
theorem entH:Proofs.Enters P0 213:=enters_of Tryz.func213 (by kernel_rfl) rfl
theorem find56n:(Extern.findNext Tryz.f225).isNone=true:=by kernel_rfl
theorem find56 : Extern.find Tryz.f225 = some (Extern.MathFloor.toIntegral "math.archTrunc" .zero) := by kernel_rfl
theorem name56 : (Tryz.f225.name == "runtime.NumGoroutine") = false := by kernel_rfl
theorem body56:Tryz.f225.body.isNone=true:=by kernel_rfl
theorem run56 (w : World) (args : Array Value) : (callFunc 225 args).run P0 w = (do return Next.value (← Extern.MathFloor.toIntegral "math.archTrunc" .zero args) : Sem Next).run P0 w := by
 have h1:Extern.findNext Tryz.f225=none:=by simpa using find56n
 have h0:Tryz.prog.funcs[225]?=some Tryz.f225:=Tryz.func225
 unfold callFunc
 simp only [Sem.run_bind]
 rw [show (program:Sem Program).run P0 w = .ok P0 w from rfl]
 simp only [Result.andThen_ok,h0,name56,body56,h1,find56]
 simp [mark]
 rfl
theorem truncOK:PSound P0 InvW 225 pTrunc:=trunc_ok (P:=P0) (f:=225) fun x w args=>run56 w args
theorem compareOK:PSound P0 InvW 158 pCompare:=compare_ok (P:=P0) (f:=158) ent55 fun a b w=>Tryz.strings_Compare a b w
theorem cOK {f:FuncId} {t el:TypeId} {k:Nat} (hu:P0.underlying t=some (.slice el)) (hc:(E0 P0 .keep f (cloneC t k)).code f=some (cloneC t k)):PSound P0 InvW f (pClone k):=clone_ok invW_ok hu hc
theorem cFOK {f:FuncId} {t el:TypeId} {k:Nat} (hu:P0.underlying t=some (.slice el)) (hc:(E0 P0 .own f (cloneC t k)).code f=some (cloneC t k)):PSound P0 InvW f (pCloneF k):=cloneF_pok invW_ok hu hc
theorem uZ:P0.underlying 47=some (.slice 178):=by kernel_rfl
theorem uV:P0.underlying 43=some (.slice 206):=by kernel_rfl
theorem uS:P0.underlying 45=some (.slice 75):=by kernel_rfl
theorem uI:P0.underlying 48=some (.slice 39):=by kernel_rfl
theorem uK:P0.underlying 41=some (.slice 168):=by kernel_rfl
theorem uM:P0.underlying 50=some (.slice 208):=by kernel_rfl
theorem uN:P0.underlying 160=some (.slice 3):=by kernel_rfl
theorem growOK {f:FuncId} (hE:Proofs.Enters P0 f) {ρ:Go.Shelf.Ren} (L:Lays8.n4 P0 ρ) (hf:ρ.f 4=f) {i0:TypeInfo} {z:Value} (hi0:P0.info? (ρ.t 25)=some i0) (hz0:i0.zero=some z) (hs0:i0.size=1) (hzs:z.cells.size=1) (hb:i0.bytes≤16):PSound P0 InvW f (pGrow 1):=by
 subst hf
 refine grow_ok (by decide) hE (fun a w=>Any8.slices_Grow_room L a 0 0 0 w (by omega) (by omega) (by omega) (by omega)) fun a n w h1 h2=>?_
 have hm:n≤68719476736:=h2
 refine (Any8.slices_Grow_grow L i0 z hi0 hz0 (by omega) a 0 0 n [] w (by omega) (by omega) ?_ (by omega) (by simp) (fun _=>rfl) (fun _ _ j v hj=>by simp at hj)).mono ?_
 ·have:(0+n) * i0.bytes≤(0+n) * 16:=Nat.mul_le_mul_left _ hb
  omega
 ·rintro e w' ⟨rfl,rfl⟩
  refine ⟨_,_,_,rfl,rfl,?_⟩
  have hg:=grownCap_ge w (0+n) 0 (ρ.t 25)
  obtain ⟨G,hG⟩:∃ G,G=grownCap w (0+n) 0 (ρ.t 25):=⟨_,rfl⟩
  rw [← hG] at hg ⊢
  simp only [Array.size_append,size_zeroCells,hzs]
  simp
  omega
end Go.Evl.Zone

namespace Go.Evl
open Go Go.Proofs Go.RowKit
theorem wpList_copyI {P:Program} (w:World) {ops:Array Oper} {rest:List Oper} {o:Oper} {a:Act} {Q:Exit→Act→World→Prop} (hgd:o.guard=none) (d s:Operand) (t t':TypeId)
  (ho:o.op = .call { callee:=.builtin .copy,args:=#[d,s],argTypes:=#[t,t'] }) (v u:Value) (hd:a.eval d=v) (hs:a.eval s=u) {v':Value} {w':World}
  (hr:(Builtin.copy_ #[t,t'] o.type #[v,u]).run P w = .ok v' w') (h:wpList P ops Q rest (a.put o.dst v') w'):wpList P ops Q (o::rest) a w :=
 wpList_copy_runI w hgd d s t t' ho v u hd hs hr h
theorem run_copyK {P:Program} (w:World) (dT sT ty elem:TypeId) (b o dLen dCap vb vo sLen sCap k n:Nat) (c:Array Value) (t:TypeId) (news:List Value) (hu:P.underlying dT=some (.slice elem)) (hs:szOf P elem=some k) (hm:Nat.min sLen dLen=n)
  (hn:news.length=n * k) (hb:w.heap[b]?=some (.cells c t (0,0))) (hfit:o+news.length≤c.size) (hsrc:∀ j v,news[j]?=some v→w.cell? ⟨vb,vo+j,none⟩=some v) (h1:∀ v∈news,v.oneCell'=true) :
  (Builtin.copy_ #[dT,sT] ty #[.slice (some ⟨b,o,none⟩) dLen dCap,.slice (some ⟨vb,vo,none⟩) sLen sCap]).run P w = .ok (goInt n) (w.setRow b (setL c.toList o news).toArray):=by
 have h:=run_storeAt (P:=P) (g:=⟨w,fun _=>False,fun _=>none,Heap.empty⟩) hb hfit h1
 have hf:=run_firstCells_some (P:=P) w k n ⟨vb,vo,none⟩ sLen sCap news hn (fun j v hj=>by rw [add_none]; exact hsrc j v hj)
 unfold Builtin.copy_
 simp only [Sem.run_bind,run_underlying hu,List.getElem?_toArray,List.getElem?_cons_zero,List.getElem?_cons_succ,Result.andThen_ok,run_sz hs,Builtin.lenOf,Sem.run_pure,hm,hf,h]
theorem frozen_cells {w:World} {b:Nat} {c:Array Value} {t:TypeId} (h:w.heap[b]?=some (.cells c t (0,0))) (o:Nat):w.frozen? ⟨b,o,none⟩=false:=by
 simp [World.frozen?,h]
structure InsC (P:Program) (f:FuncId) (k:Nat) (te tS tV:TypeId):Prop where
 shift:∀ (b vb vo i n cap vcap:Nat) (c vc:Array Value) (t t2:TypeId) (w:World) (hb:w.heap[b]?=some (.cells c t (0,0))) (hvb:w.heap[vb]?=some (.cells vc t2 (0,0))) (hne:vb≠b) (hi:i < n) (hroom:n+1≤cap) (h63:n+1≤68719476736)
  (hc:c.size=cap * k) (cs vs C1 C2:List Value) (hcs:cs=(c.toList.take (n * k)).drop (i * k)) (hvs:vs=(vc.toList.drop vo).take k) (hvl:vs.length=k) (h1c:∀ v∈cs,v.oneCell'=true) (h1v:∀ v∈vs,v.oneCell'=true)
  (hC1:C1=setL c.toList ((i+1) * k) cs) (hC2:C2=setL C1 (i * k) vs) (hvk:vc.size≠0),Calls P f #[.slice (some ⟨b,0,none⟩) n cap,.int .i64 i,.slice (some ⟨vb,vo,none⟩) 1 vcap] w fun e w' =>
   e = .returned (.slice (some ⟨b,0,none⟩) (n+1) cap)∧w'=(w.drew.setRow b C1.toArray).setRow b C2.toArray
 grow:∀ (b vb vo i n cap vcap:Nat) (c vc:Array Value) (t t2:TypeId) (w:World) (hb:w.heap[b]?=some (.cells c t (0,0))) (hvb:w.heap[vb]?=some (.cells vc t2 (0,0))) (hi:i < n) (hnc:n≤cap) (hroom:cap < n+1) (hbig:n+1≤68719476736)
  (hc:n * k≤c.size) (cs vs D1 D2:List Value) (ROW:Array Value) (i0:TypeInfo) (z:Value) (hi0:P.info? te=some i0) (hz0:i0.zero=some z) (hs0:i0.size=k) (hzs:z.cells.size=k) (hbt:i0.bytes≤1024) (hcs:cs=c.toList.take (n * k)) (hvs:vs=(vc.toList.drop vo).take k) (hvl:vs.length=k) (h1c:∀ v∈cs,v.oneCell'=true) (h1v:∀ v∈vs,v.oneCell'=true)
  (hR:ROW=(cs.take (i * k)).toArray++Builtin.zeroCells z.cells (n+1 - i)++Builtin.zeroCells z.cells (grownCap w (n+1) cap te - (n+1))) (hD1:D1=setL ROW.toList (i * k) vs) (hD2:D2=setL D1 ((i+1) * k) (cs.drop (i * k))),Calls P f #[.slice (some ⟨b,0,none⟩) n cap,.int .i64 i,.slice (some ⟨vb,vo,none⟩) 1 vcap] w fun e w' =>
   e = .returned (.slice (some ⟨w.heap.size,0,none⟩) (n+1) (grownCap w (n+1) cap te))∧w'=((((w.alloc (.cells ROW te)).drew).setRow w.heap.size D1.toArray).drew).setRow w.heap.size D2.toArray
 end_:∀ (base:Option Addr) (n cap vb vo vcap:Nat) (w w':World) (u:Value) (h63:n≤68719476736) (hr:∀ ty,(Builtin.append_ #[tS,tV] ty #[.slice base n cap,.slice (some ⟨vb,vo,none⟩) 1 vcap]).run P w = .ok u w'),Calls P f #[.slice base n cap,.int .i64 n,.slice (some ⟨vb,vo,none⟩) 1 vcap] w fun e w2=>e = .returned u∧w2=w'
end Go.Evl

namespace Go.Evl.Zone
open Go Go.Evl Go.RowKit
theorem sl_inv {g:G} (hW:WR g) {v:Value} {r k n m:Nat} {xs:List (List PV)} (hv:VR g v (.sl r k n 0 m)) (hb:g.H.at_ r = .row k xs true) (hn:n=xs.length) :
  ∃ (b cap:Nat) (c:Array Value) (t:TypeId),v = .slice (some ⟨b,0,none⟩) m cap∧m≤cap∧g.ι r=some b∧g.w.heap[b]?=some (.cells c t (0,0))∧c.size=cap * k∧0 < k∧(∀ x∈xs,x.length=k)∧xs.length * k≤c.size∧RR g k (c.toList.take (xs.length * k)) xs:=by
 subst hn
 cases hv with
 | sl ad _ _ _ _ _ cap hlc hg hh =>
   obtain ⟨a1,a2,b,c,t,fr,q1,q2,q3,q4,q5,q6⟩:=hW.row r k xs true hb
   have hfr:=q3 rfl; subst hfr
   have hval:Valid g r k xs.length b:=⟨q1,by rw [hb]; rfl,by rw [hb]; rfl⟩
   obtain ⟨e1,c0,t0,fr0,e2,e3⟩:=hh b hval
   rw [q2] at e2; simp at e2
   obtain ⟨rfl,rfl,rfl⟩:=e2
   subst e1
   exact ⟨b,cap,c,t,by rw [Nat.zero_mul],hlc,q1,q2,by rw [e3]; simp,a1,a2,q5,row_rr a2 q5 q6⟩
theorem ins_cells {α:Type} {C1 C2 base D vs:List α} {n i k:Nat} (hi:i≤n) (hk:0 < k) (hb:(i+1) * k+D.length≤base.length) (hD:D.length=(n - i) * k) (hv:vs.length=k) (h1:C1=setL base ((i+1) * k) D) (h2:C2=setL C1 (i * k) vs) :
  C2.take ((n+1) * k)=base.take (i * k)++vs++D∧C2.length=base.length:=by
 have e1:(i+1) * k=i * k+k:=by rw [Nat.add_mul,Nat.one_mul]
 have e2:(n+1) * k=i * k+k+(n - i) * k:=by
  have:n * k=i * k+(n - i) * k:=by rw [← Nat.add_mul]; congr 1; omega
  rw [Nat.add_mul,Nat.one_mul,this]; omega
 have l1:C1.length=base.length:=by rw [h1,setL_length _ _ _ hb]
 have l2:C2.length=base.length:=by rw [h2,setL_length _ _ _ (by omega),l1]
 refine ⟨?_,l2⟩
 have hC1:C1=base.take (i * k+k)++D++base.drop (i * k+k+D.length):=by rw [h1,e1]; rfl
 have hC2:C2=C1.take (i * k)++vs++C1.drop (i * k+vs.length):=by rw [h2]; rfl
 have t1:C1.take (i * k)=base.take (i * k):=by
  rw [hC1,List.append_assoc,List.take_append_of_le_length (by rw [List.length_take]; omega),List.take_take,Nat.min_eq_left (by omega)]
 have t2:C1.drop (i * k+vs.length)=D++base.drop (i * k+k+D.length):=by
  rw [hC1,hv,List.append_assoc,List.drop_left' (by rw [List.length_take]; omega)]
 rw [hC2,t1,t2,← List.append_assoc,List.take_left' ]
 simp only [List.length_append,List.length_take]
 omega
theorem fits_of {g:G} {k:Nat} {xs:List (List PV)} {C vals:List Value} (hk:0 < k) (h:RR g k vals xs) (hv:vals=C.take (xs.length * k)) (hs:xs.length * k≤C.length):Fits g C.toArray (.row k xs true) :=
 rr_fits hk h (by simpa using hv) (by simpa using hs)
theorem wrap_refl {g:G} (hW:WR g):WR g:=hW
theorem grow_at (H:Heap) (r:Nat) (b:Blk) (hr:r < H.n) (h:H.at_ r=b):(H.grow 1).at_ r=b:=by
 show (if r < H.n then _ else _)=_
 rw [if_pos hr,h]
theorem im1_inv {g:G} {v:Value} {y:List PV} {k:Nat} (hk0:0 < k) (hy:y.length=k) (hv:VR g v (.im [y] true)):∃ (b vo:Nat) (c:Array Value) (t:TypeId),v = .slice (some ⟨b,vo,none⟩) 1 1∧g.Z b∧g.w.heap[b]?=some (.cells c t (0,0))∧vo+k≤c.size∧RR g k ((c.toList.drop vo).take k) [y]:=by
 obtain ⟨ad,cap,rfl,hf,_,hat⟩:=hv.inv_im
 obtain ⟨k',b,vo,c,t,fr,cv,rfl,hZ,hb,hfr,hk,hno,hc,hh⟩:=hat (by simp)
 obtain rfl:=hfr rfl
 have hcap:=hf rfl
 simp at hcap
 subst hcap
 have hj:∀ j p,y[j]?=some p→c[vo+j]?=some (cv 0 j)∧(cv 0 j).oneCell'=true∧VR g (cv 0 j) p:=fun j p hp=>by
  have h1:=hc 0 y j p (by simp) hp
  have h2:=hh 0 y j p (by simp) hp
  simp only [Nat.zero_mul,Nat.add_zero] at h1
  exact ⟨h1.1,h1.2,h2⟩
 have hs:vo+k≤c.size:=by
  obtain ⟨p,hp⟩:∃ p,y[k - 1]?=some p:=⟨_,List.getElem?_eq_getElem (by omega)⟩
  have:=(Array.getElem?_eq_some_iff.1 (hj _ p hp).1).1
  omega
 have hl:((c.toList.drop vo).take k).length=k:=by simp; omega
 refine ⟨b,vo,c,t,rfl,hZ,hb,hs,⟨⟨by simp only [List.flatten_cons,List.flatten_nil,List.append_nil]; rw [hl,hy],fun i v p hv hp=>?_⟩,by simpa using hy,fun v hv=>?_⟩⟩
 ·simp only [List.flatten_cons,List.flatten_nil,List.append_nil] at hp
  rw [List.getElem?_take] at hv
  split at hv
  ·rw [List.getElem?_drop,Array.getElem?_toList] at hv
   obtain ⟨q1,_,q3⟩:=hj i p hp
   rw [q1] at hv
   obtain rfl:=Option.some.inj hv
   exact q3
  ·cases hv
 ·obtain ⟨i,hi⟩:=List.mem_iff_getElem?.1 hv
  rw [List.getElem?_take] at hi
  split at hi
  ·rename_i hlt
   rw [List.getElem?_drop,Array.getElem?_toList] at hi
   obtain ⟨q1,q2,_⟩:=hj i y[i] (List.getElem?_eq_getElem (by omega))
   rw [q1] at hi
   obtain rfl:=Option.some.inj hi
   exact q2
  ·cases hi
theorem ins_ok {P:Program} {Inv:G→Prop} {f:FuncId} {k:Nat} {te tS tV:TypeId} (hE:Go.Proofs.Enters P f) (C:InsC P f k te tS tV) (hS:P.underlying tS=some (.slice te)) (hV:P.underlying tV=some (.slice te)) {z:List PV} (hz:zeroC P te=some z) (hzl:z.length=k) (hsm:small P te=true) (hsz:szOf P te=some k) (hall:z.all cellP=true):PSound P Inv f (pIns k):=by
 intro args H r h g vs R hW hI hH ha hR
 subst hH
 unfold pIns at h
 split at h
 ·rename_i x i y
  split at h
  ·rename_i hyk
   obtain ⟨hyl,hk⟩:=hyk
   obtain ⟨v0,v1,v2,rfl,hv0,hv1,hv2⟩:∃ v0 v1 v2,vs=[v0,v1,v2]∧VR g v0 x∧VR g v1 (.val (.int .i64 i))∧VR g v2 (.im [y] true):=by
    match vs,ha.1 with
    | [v0,v1,v2],_=>exact ⟨v0,v1,v2,rfl,ha.2 0 v0 _ rfl rfl,ha.2 1 v1 _ rfl rfl,ha.2 2 v2 _ rfl rfl⟩
   obtain rfl:=hv1.inv_val
   obtain ⟨b2,vo,c2,t2,rfl,hZ2,hh2,hs2,hrr2⟩:=im1_inv hk hyl hv2
   have hW1:=wr_room hW 1
   have hX1:=ext_room hW 1
   have hdead:(g.room 1).H.at_ g.H.n = .dead:=by
    show (g.H.grow 1).at_ g.H.n = .dead
    rw [room_at hW 1]
    exact hW.dead _ (Nat.le_refl _)
   have hslot:g.H.n < (g.room 1).H.n:=Nat.lt_succ_self _
   have hel2:elems (g.room 1).H k (.im [y] true)=some ([y],[]):=by
    unfold elems
    simp [allLen,hyl]
   split at h
   ·-- nothing there yet
    split at h
    ·rename_i hi0
     subst hi0
     simp only [Option.some.injEq] at h; subst h
     obtain ⟨ad,cap,rfl,hf,_,_⟩:=hv0.inv_im
     have hap:appendP (g.room 1).H g.H.n k (.im [] true) [y]=some (.sl g.H.n k 1 0 1,(g.room 1).H.put g.H.n (.row k [y] true),[g.H.n],[]):=by
      unfold appendP
      simp [allLen,most,hyl]
     have key:∀ ty,∃ u g',(Builtin.append_ #[tS,tV] ty #[.slice ad 0 cap,.slice (some ⟨b2,vo,none⟩) 1 1]).run P (g.room 1).w = .ok u g'.w∧g'.H=(g.room 1).H.put g.H.n (.row k [y] true)∧WR g'∧Ext (g.room 1) g'∧VR g' u (.sl g.H.n k 1 0 1):=fun ty =>
      app_sound (P:=P) hW1 hdead hslot (argTypes:=#[tS,tV]) (ty:=ty) rfl rfl hS hsz hz hzl hk hsm hV (fun q e=>by cases e) (hv0.mono hW hX1) (hv2.mono hW hX1) hel2 hap
     obtain ⟨u,g',k1,k2,k3,k4,k5⟩:=key 0
     have hrun:∀ ty,(Builtin.append_ #[tS,tV] ty #[.slice ad 0 cap,.slice (some ⟨b2,vo,none⟩) 1 1]).run P g.w = .ok u g'.w:=fun ty=>k1
     refine goes_calls hE (C.end_ ad 0 cap b2 vo 1 g.w g'.w u (by omega) hrun) ?_
     rintro e w' ⟨rfl,rfl⟩
     exact ⟨u,rfl,hR g' u k2 k3 (hX1.trans k4) k5⟩
    ·cases h
   ·rename_i r k1 gg0 gg
    split at h
    ·rename_i k4 xs hrow
     split at h
     ·rename_i hc
      obtain ⟨rfl,rfl,rfl,hxn,hi0,hin,hmost⟩:=hc
      obtain ⟨j,rfl⟩:∃ j:Nat,i=(j:Int):=⟨i.toNat,by omega⟩
      have hjn:j≤gg:=by omega
      have hm2:gg+1≤68719476736:=hmost
      simp only [Int.toNat_natCast,Option.some.injEq] at h; subst h
      have rlt:r < g.H.n:=hW.lt_n (by rw [hrow]; simp)
      have hrow':(g.room 1).H.at_ r = .row k xs true:=grow_at _ _ _ rlt hrow
      obtain ⟨b,cap,c,t,rfl,hcap,hir,hh,hcs,_,hxl,hxs,hrr⟩:=sl_inv hW hv0 hrow hxn.symm
      have hc2:k≤c2.size:=by omega
      have hown:isOwn (g.H.at_ r):=by rw [hrow]; trivial
      have hbb:b2≠b:=fun e=>hW.z r b hown hir (e▸hZ2)
      by_cases hj:j=gg
      ·subst hj
       have hap:appendP (g.room 1).H g.H.n k (.sl r k j 0 j) [y]=some (.sl r k (j+1) 0 (j+1),(g.room 1).H.put r (.row k (xs.take j++[y]) true),[r],[r]):=by
        unfold appendP
        simp only [hrow']
        simp [hxn,hmost]
       obtain ⟨u,g',k1,k2,k3,k4,k5⟩:=app_sound (P:=P) hW1 hdead hslot (argTypes:=#[tS,tV]) (ty:=0) rfl rfl hS hsz hz hzl hk hsm hV (fun q e=>by cases e) (hv0.mono hW hX1) (hv2.mono hW hX1) hel2 hap
       have hrun:∀ ty,(Builtin.append_ #[tS,tV] ty #[.slice (some ⟨b,0,none⟩) j cap,.slice (some ⟨b2,vo,none⟩) 1 1]).run P g.w = .ok u g'.w:=fun ty=>k1
       refine goes_calls hE (C.end_ _ j cap b2 vo 1 g.w g'.w u (by omega) hrun) ?_
       rintro e w' ⟨rfl,rfl⟩
       refine ⟨u,rfl,hR g' u ?_ k3 (hX1.trans k4) k5⟩
       rw [k2,List.drop_of_length_le (by omega)]
       rfl
      have hjl:j < gg:=by omega
      obtain ⟨cs,hcsd⟩:∃ cs,cs=c.toList.take (gg * k):=⟨_,rfl⟩
      obtain ⟨vs,hvsd⟩:∃ vs,vs=(c2.toList.drop vo).take k:=⟨_,rfl⟩
      have hrrx:RR g k cs xs:=by rw [hcsd,← hxn]; exact hrr
      have hrry:RR g k vs [y]:=by rw [hvsd]; exact hrr2
      have hvl:vs.length=k:=by have:=hrry.size; simpa using this
      have hcl:cs.length=gg * k:=by have:=hrrx.size; rw [this,hxn]
      have h1c:∀ v∈cs,v.oneCell'=true:=hrrx.one
      have h1v:∀ v∈vs,v.oneCell'=true:=hrry.one
      have hgk:gg * k=j * k+(gg - j) * k:=by rw [← Nat.add_mul]; congr 1; omega
      have hdl:(cs.drop (j * k)).length=(gg - j) * k:=by rw [List.length_drop,hcl]; omega
      have hck:gg * k≤cap * k:=Nat.mul_le_mul_right k hcap
      have hxs':(xs.take j++y::xs.drop j).length=gg+1:=by simp; omega
      have hxk:∀ x∈xs.take j++y::xs.drop j,x.length=k:=fun x hx=>by
       rcases List.mem_append.1 hx with hx | hx
       ·exact hxl x (List.mem_of_mem_take hx)
       ·rcases List.mem_cons.1 hx with rfl | hx
        ·exact hyl
        ·exact hxl x (List.mem_of_mem_drop hx)
      have hWd:WR (g.room 1).drew:=wr_drew hW1
      have hXd:Ext g (g.room 1).drew:=hX1.trans (ext_drew _)
      have hRR:RR (g.room 1).drew k (cs.take (j * k)++vs++cs.drop (j * k)) (xs.take j++y::xs.drop j):=by
       have:=((hrrx.take j).append hrry).append (hrrx.drop j)
       rw [List.append_assoc,List.append_assoc] at this
       rw [List.append_assoc]
       exact this.mono hW hXd
      have e1:(j+1) * k=j * k+k:=by rw [Nat.add_mul,Nat.one_mul]
      have e2:(gg+1) * k=gg * k+k:=by rw [Nat.add_mul,Nat.one_mul]
      by_cases hroom:gg+1≤cap
      ·-- room in the block
       have hck1:(gg+1) * k≤cap * k:=Nat.mul_le_mul_right k hroom
       obtain ⟨C1,hC1⟩:∃ C1,C1=setL c.toList ((j+1) * k) (cs.drop (j * k)):=⟨_,rfl⟩
       obtain ⟨C2,hC2⟩:∃ C2,C2=setL C1 (j * k) vs:=⟨_,rfl⟩
       have hbl:(j+1) * k+(cs.drop (j * k)).length≤c.toList.length:=by rw [hdl,Array.length_toList,hcs,e1]; omega
       obtain ⟨q1,q2⟩:=ins_cells (base:=c.toList) hjn hk hbl hdl hvl hC1 hC2
       have hl1:C1.length=c.size:=by rw [hC1,setL_length _ _ _ hbl]; simp
       refine goes_calls hE (C.shift b b2 vo j gg cap 1 c c2 t t2 g.w hh hh2 hbb hjl hroom hm2 hcs (cs.drop (j * k)) vs C1 C2 (by rw [hcsd]) hvsd hvl (fun v hv=>h1c v (List.mem_of_mem_drop hv)) h1v hC1 hC2 (by omega)) ?_
       rintro e w' ⟨rfl,rfl⟩
       have hd:g.w.drew.heap[b]?=some (.cells c t (0,0)):=hh
       have hb1:(g.w.drew.setRow b C1.toArray).heap[b]?=some (.cells C1.toArray t (0,0)):=setRow_heap _ _ _ _ _ _ hd
       have hb2:((g.w.drew.setRow b C1.toArray).setRow b C2.toArray).heap[b]?=some (.cells C2.toArray t (0,0)):=setRow_heap _ _ _ _ _ _ hb1
       have hfit:Fits (g.room 1).drew C2.toArray (.row k (xs.take j++y::xs.drop j) true):=by
        refine fits_of hk hRR ?_ ?_
        ·rw [hxs',q1]
         congr 2
         rw [hcsd,List.take_take,Nat.min_eq_left (by omega)]
        ·rw [hxs',q2,Array.length_toList,hcs]; exact hck1
       obtain ⟨w1,e4⟩:=regrow (g:=(g.room 1).drew) hWd (xs':=xs.take j++y::xs.drop j) hrow' hir hh (w':=(g.w.drew.setRow b C1.toArray).setRow b C2.toArray) (b':=b) hb2 (.inl ⟨rfl,by simp [q2]⟩) (by simp [G.drew,G.room])
        (fun x o hx ho=>by rw [setRow_other _ _ _ _ hx,setRow_other _ _ _ _ hx]; exact ho) (by omega) hfit ⟨by simp [World.setRow,G.drew,G.room],by simp [World.setRow,G.drew,G.room],by simp [World.setRow,G.drew,G.room]⟩
       refine ⟨_,rfl,hR _ _ rfl w1 (hXd.trans e4) ?_⟩
       refine .sl _ _ _ _ _ _ _ hroom ⟨_,by show rowLen (((g.H.grow 1).put r _).at_ r)=_; rw [Heap.put_same]; rfl,by rw [hxs']; exact Nat.le_refl _⟩ fun b3 hb3=>?_
       have hb4:=hb3.1
       simp at hb4; subst hb4
       exact ⟨by simp,_,_,_,hb2,by simp [q2,hcs]⟩
      ·-- a new block
       obtain ⟨i0,hi0,hib⟩:∃ i,P.info? te=some i∧i.bytes≤1024:=by
        unfold small at hsm
        split at hsm
        ·rename_i i hi; exact ⟨i,hi,by simpa using hsm⟩
        ·simp at hsm
       obtain ⟨zv,hiz,hzk⟩:∃ zv,i0.zero=some zv∧zv.cells.size=k:=by
        unfold zeroC at hz
        rw [hi0] at hz
        simp only [Option.bind_some] at hz
        split at hz
        ·rename_i zv hq
         simp only [Option.map_eq_some_iff] at hz
         obtain ⟨p,hp1,hp2⟩:=hz
         refine ⟨zv,hq,?_⟩
         have:=(zero_cells (g:=g) hp1).1.1
         rw [hp2,hzl] at this
         simpa using this
        ·cases hz
       have hiS:i0.size=k:=by
        unfold szOf at hsz
        rw [hi0] at hsz
        simpa using hsz
       obtain ⟨ROW,hROW⟩:∃ ROW:Array Value,ROW=(cs.take (j * k)).toArray++Builtin.zeroCells zv.cells (gg+1 - j)++Builtin.zeroCells zv.cells (grownCap g.w (gg+1) cap te - (gg+1)):=⟨_,rfl⟩
       obtain ⟨D1,hD1⟩:∃ D1,D1=setL ROW.toList (j * k) vs:=⟨_,rfl⟩
       obtain ⟨D2,hD2⟩:∃ D2,D2=setL D1 ((j+1) * k) (cs.drop (j * k)):=⟨_,rfl⟩
       have hge:=grownCap_ge g.w (gg+1) cap te
       refine goes_calls hE (C.grow b b2 vo j gg cap 1 c c2 t t2 g.w hh hh2 hjl hcap (by omega) hm2 (by omega) cs vs D1 D2 ROW i0 zv hi0 hiz hiS hzk hib hcsd hvsd hvl h1c h1v hROW hD1 hD2) ?_
       rintro e w' ⟨rfl,rfl⟩
       obtain ⟨GC,hGC⟩:∃ GC,GC=grownCap g.w (gg+1) cap te:=⟨_,rfl⟩
       rw [← hGC] at hge hROW ⊢
       have hGk:(gg+1) * k≤GC * k:=Nat.mul_le_mul_right k hge
       have hRs:ROW.size=GC * k:=by
        rw [hROW]
        simp only [Array.size_append,size_zeroCells,hzk,List.size_toArray,List.length_take,hcl]
        rw [Nat.min_eq_left (by omega),← Nat.add_mul,← Nat.add_mul]
        congr 1
        omega
       have hct:(cs.take (j * k)).length=j * k:=by rw [List.length_take,hcl,Nat.min_eq_left (by omega)]
       have hRt:ROW.toList.take (j * k)=cs.take (j * k):=by
        rw [hROW]
        simp only [Array.toList_append,List.append_assoc]
        rw [List.take_left' hct]
       have hbl:(j+1) * k+(cs.drop (j * k)).length≤ROW.toList.length:=by rw [hdl,Array.length_toList,hRs,e1]; omega
       have hl1:D1.length=ROW.size:=by rw [hD1,setL_length _ _ _ (by have:ROW.toList.length=ROW.size:=Array.length_toList; omega)]; simp
       have q1:D2.take ((gg+1) * k)=cs.take (j * k)++vs++cs.drop (j * k):=by
        have a1:D1.take (j * k+k)=cs.take (j * k)++vs:=by
         rw [hD1]
         unfold setL
         rw [hRt,List.take_left' (by rw [List.length_append,hct,hvl])]
        rw [hD2,e1]
        unfold setL
        rw [a1,List.take_left' (by rw [List.length_append,List.length_append,hct,hvl,hdl]; omega)]
       have q2:D2.length=ROW.size:=by rw [hD2,setL_length _ _ _ (by rw [hl1]; simpa using hbl),hl1]
       have n0:((g.w.alloc (.cells ROW te)).drew).heap[g.w.heap.size]?=some (.cells ROW te (0,0)):=heap_alloc_new g.w _
       have n1:(((g.w.alloc (.cells ROW te)).drew).setRow g.w.heap.size D1.toArray).heap[g.w.heap.size]?=some (.cells D1.toArray te (0,0)):=setRow_heap _ _ _ _ _ _ n0
       have n2:((((g.w.alloc (.cells ROW te)).drew).setRow g.w.heap.size D1.toArray).drew).heap[g.w.heap.size]?=some (.cells D1.toArray te (0,0)):=n1
       have n3:((((g.w.alloc (.cells ROW te)).drew).setRow g.w.heap.size D1.toArray).drew.setRow g.w.heap.size D2.toArray).heap[g.w.heap.size]?=some (.cells D2.toArray te (0,0)):=setRow_heap _ _ _ _ _ _ n2
       have hfit:Fits (g.room 1).drew D2.toArray (.row k (xs.take j++y::xs.drop j) true):=by
        refine fits_of hk hRR ?_ ?_
        ·rw [hxs',q1]
        ·rw [hxs',q2,hRs]; exact hGk
       obtain ⟨w1,e4⟩:=regrow (g:=(g.room 1).drew) hWd (xs':=xs.take j++y::xs.drop j) hrow' hir hh (w':=(((g.w.alloc (.cells ROW te)).drew).setRow g.w.heap.size D1.toArray).drew.setRow g.w.heap.size D2.toArray) (b':=g.w.heap.size) n3 (.inr rfl) (by simp [G.drew,G.room])
        (fun x o hx ho=>by
         rw [setRow_other _ _ _ _ hx]
         show (((g.w.alloc (.cells ROW te)).drew).setRow g.w.heap.size D1.toArray).heap[x]?=_
         rw [setRow_other _ _ _ _ hx]
         show (g.w.alloc (.cells ROW te)).heap[x]?=_
         exact (heap_alloc_old g.w _ (lt_of_heap ho)).trans ho) (by omega) hfit ⟨by simp [World.setRow,G.drew,G.room] <;> rfl,by simp [World.setRow,G.drew,G.room] <;> rfl,by simp [World.setRow,G.drew,G.room] <;> rfl⟩
       refine ⟨_,rfl,hR _ _ rfl w1 (hXd.trans e4) ?_⟩
       refine .sl _ _ _ _ _ _ _ hge ⟨_,by show rowLen (((g.H.grow 1).put r _).at_ r)=_; rw [Heap.put_same]; rfl,by rw [hxs']; exact Nat.le_refl _⟩ fun b3 hb3=>?_
       have hb4:=hb3.1
       simp at hb4; subst hb4
       exact ⟨by simp,_,_,_,n3,by simp [q2,hRs]⟩
     ·cases h
    ·cases h
   ·cases h
  ·cases h
 ·cases h
end Go.Evl.Zone

namespace Go.Evl.Zone
open Go Go.Evl Go.RowKit Go.Proofs Go.Sort
theorem putCells_eq {α:Type} [Inhabited α] (enc:α→Value) (c:Array Value) (l:List α) (h:l.length≤c.size):putCells enc 0 l.toArray c=(setL c.toList 0 (l.map enc)).toArray:=by
 apply Array.ext_getElem?
 intro k
 simp only [putCells,Array.getElem?_mapIdx,List.getElem?_toArray]
 rw [setL_get _ _ _ _ (by simpa using h)]
 by_cases hk:k < l.length
 ·have h1:c[k]?=some c[k]:=Array.getElem?_eq_getElem (by omega)
  rw [h1]
  simp [hk]
 ·cases hc:c[k]? with
  | none=>simp [hk,hc]
  | some y=>simp [hk,hc]
theorem putRow_heap {α:Type} [Inhabited α] (enc:α→Value) (w:World) (b n:Nat) (l:List α) (c:Array Value) (t:TypeId) (hb:w.heap[b]?=some (.cells c t (0,0))) (h:l.length≤c.size) :
  (putRow enc (Sort.ahead w n) b 0 l.toArray).heap[b]?=some (.cells (setL c.toList 0 (l.map enc)).toArray t (0,0)):=by
 have hb':(Sort.ahead w n).heap[b]?=some (.cells c t (0,0)):=hb
 unfold putRow mapBlock
 simp only [Array.getElem?_modify,hb',Option.map_some,if_true,onCells,putCells_eq enc c l h]
theorem putRow_else {α:Type} [Inhabited α] (enc:α→Value) (w:World) (b n x:Nat) (d:Array α) (hx:x≠b):(putRow enc (Sort.ahead w n) b 0 d).heap[x]?=w.heap[x]?:=by
 unfold putRow mapBlock
 simp only [Array.getElem?_modify]
 rw [if_neg (by omega)]
 rfl
theorem sortRow_ok {α:Type} [Inhabited α] {P:Program} {f:FuncId} (enc:α→Value) (henc:∀ x,(enc x).oneCell'=true) (srt:List α→List α) (hsl:∀ l,(srt l).length=l.length) (rd:List (List PV)→Option (List α)) (hrd:∀ xs l,rd xs=some l→xs=l.map fun x=>[.val (enc x)]) (ex:Array Value)
  (hE:Go.Proofs.Enters P f) (hN:∀ p cap w,Calls P f (#[.slice p 0 cap]++ex) w fun e w'=>e = .returned (.tuple #[])∧w'=w)
  (hS:∀ (b cap:Nat) (l:List α) (w:World),Holds enc w b 0 l.toArray→b < w.heap.size→l.length < 4611686018427387904→Calls P f (#[.slice (some ⟨b,0,none⟩) l.length cap]++ex) w fun e w'=>e = .returned (.tuple #[])∧∃ n os,w'=grow (putRow enc (Sort.ahead w n) b 0 (srt l).toArray) os)
  {x:PV} {H:Heap} {r:ORes} (h:sortRow (fun xs=>(rd xs).map fun l=>(srt l).map fun x=>[.val (enc x)]) x H=some r) {g:G} {v:Value} {R:Value→World→Prop} (hW:WR g) (hH:g.H=H) (hv:VR g v x)
  (hR:∀ g' v,g'.H=r.h→WR g'→Ext g g'→VR g' v r.v→R v g'.w):Goes P f (#[v]++ex) g.w R:=by
 subst hH
 unfold sortRow at h
 split at h
 ·simp only [Option.some.injEq] at h; subst h
  obtain ⟨ad,cap,rfl,_⟩:=hv.inv_im
  refine goes_calls hE (hN ad cap g.w) ?_
  rintro e w' ⟨rfl,rfl⟩
  exact ⟨_,rfl,hR (g.room 1) _ rfl (wr_room hW 1) (ext_room hW 1) (.val _)⟩
 ·rename_i r0 gg n
  split at h
  ·rename_i xs hrow
   split at h
   ·rename_i hc
    obtain ⟨rfl,hxn,hmost⟩:=hc
    split at h
    ·rename_i ys hys
     simp only [Option.some.injEq] at h; subst h
     simp only [Option.map_eq_some_iff] at hys
     obtain ⟨l,hl,rfl⟩:=hys
     obtain rfl:=hrd _ _ hl
     simp only [List.length_map] at hxn
     subst hxn
     have hm2:l.length≤68719476736:=hmost
     obtain ⟨b,cap,c,t,rfl,hcap,hir,hh,hcs,_,hxl,hxs,hrr⟩:=sl_inv hW hv hrow (by simp)
     simp only [List.length_map,Nat.mul_one] at hcs hxs hrr
     have hown:isOwn (g.H.at_ r0):=by rw [hrow]; trivial
     have rlt:r0 < g.H.n:=hW.lt_n (by rw [hrow]; simp)
     have hcl:∀ j,(hj:j < l.length)→c[j]?=some (enc l[j]):=by
      intro j hj
      obtain ⟨_,_,b',c',t',fr,q1,q2,q3,q4,q5,q6⟩:=hW.row r0 1 _ true hrow
      rw [hir] at q1; simp at q1; subst q1
      rw [hh] at q2; simp at q2; obtain ⟨rfl,rfl,rfl⟩:=q2
      obtain ⟨cv,k1,k2,k3⟩:=q6 j [.val (enc l[j])] 0 (.val (enc l[j])) (by simp [hj]) rfl
      obtain rfl:=k3.inv_val
      simpa using k1
     have hHolds:Holds enc g.w b 0 l.toArray:=fun j hj=>by
      have hj':j < l.length:=by simpa using hj
      refine ⟨?_,frozen_cells hh _⟩
      rw [cell_of hh,Nat.zero_add,hcl j hj']
      simp [hj']
     refine goes_calls hE (hS b cap l g.w hHolds (lt_of_heap hh) (by omega)) ?_
     rintro e w' ⟨rfl,n,os,rfl⟩
     have hW1:=wr_room hW 1
     have hX1:=ext_room hW 1
     have hrow':(g.room 1).H.at_ r0 = .row 1 (l.map fun x=>[.val (enc x)]) true:=grow_at _ _ _ rlt hrow
     have hown':isOwn ((g.room 1).H.at_ r0):=by rw [hrow']; trivial
     obtain ⟨D,hD⟩:∃ D,D=(setL c.toList 0 ((srt l).map enc)).toArray:=⟨_,rfl⟩
     have hlen:0+((srt l).map enc).length≤c.toList.length:=by simp [hsl]; omega
     have hDs:D.size=c.size:=by rw [hD]; simp only [List.size_toArray]; rw [setL_length _ _ _ hlen]; simp
     have hfit:Fits (g.room 1) D (.row 1 ((srt l).map fun x=>[.val (enc x)]) true):=by
      refine ⟨rfl,by omega,by simp,by simp [hsl,hDs]; omega,fun i y j p hy hp=>?_⟩
      simp only [List.getElem?_map,Option.map_eq_some_iff] at hy
      obtain ⟨a,ha,rfl⟩:=hy
      have hj:j=0:=by
       have:=(List.getElem?_eq_some_iff.1 hp).1
       simp at this; exact this
      subst hj
      simp at hp; subst hp
      refine ⟨enc a,?_,henc a,.val _⟩
      rw [hD]
      simp only [List.getElem?_toArray,Nat.mul_one,Nat.add_zero]
      rw [setL_get _ _ _ _ hlen]
      have hi:=(List.getElem?_eq_some_iff.1 ha).1
      rw [if_pos ⟨by omega,by simp; omega⟩]
      simp [ha]
     have hhr:(g.room 1).w.heap[b]?=some (.cells c t (0,0)):=hh
     have hbx:¬ isBox ((g.room 1).H.at_ r0):=by rw [hrow']; exact fun h=>h
     have w1:=wr_store hW1 r0 b c D t (.row 1 ((srt l).map fun x=>[.val (enc x)]) true) hown' hir hhr hDs (fun hb=>(hbx hb).elim) (by rw [hrow']; simp [rowLen,hsl]) (by rw [hrow']; rfl) hfit
     have x1:=ext_store (g:=g.room 1) r0 b c D t (.row 1 ((srt l).map fun x=>[.val (enc x)]) true) hown' hir hhr hDs (fun hb=>(hbx hb).elim) (by rw [hrow']; simp [rowLen,hsl]) (by rw [hrow']; rfl)
     have hbel:Below ((g.room 1).stored r0 b D (.row 1 ((srt l).map fun x=>[.val (enc x)]) true)).w.heap.size ((g.room 1).stored r0 b D (.row 1 ((srt l).map fun x=>[.val (enc x)]) true)).w (grow (putRow enc (Sort.ahead g.w n) b 0 (srt l).toArray) os):=by
      refine ⟨rfl,rfl,rfl,by simp [grow,putRow,mapBlock,G.stored,G.room,World.setRow],fun k hk=>?_⟩
      have hk':k < g.w.heap.size:=by simpa [G.stored,G.room,World.setRow] using hk
      have e1:(grow (putRow enc (Sort.ahead g.w n) b 0 (srt l).toArray) os).heap[k]?=(putRow enc (Sort.ahead g.w n) b 0 (srt l).toArray).heap[k]?:=heap_grow_old _ _ (by simpa [putRow,mapBlock] using hk')
      rw [e1]
      by_cases hkb:k=b
      ·subst hkb
       rw [putRow_heap enc g.w k n (srt l) c t hh (by rw [hsl]; exact hxs),← hD]
       exact (setRow_heap _ _ _ _ _ _ hh).symm
      ·rw [putRow_else _ _ _ _ _ _ hkb]
       exact (setRow_other _ _ _ _ hkb).symm
     obtain ⟨g',e1,e2,e3,e4,e5⟩:=grown_g w1 hbel
     exact ⟨_,rfl,e1▸hR g' _ (by rw [e2]; rfl) e3 (hX1.trans (x1.trans e4)) (.val _)⟩
    ·cases h
   ·cases h
  ·cases h
 ·cases h
theorem strs_map:∀ xs l,strs xs=some l→xs=l.map fun x:List UInt8=>[.val (.string ⟨x.toArray⟩)]
 | [],l,h=>by simp [strs] at h; subst h; rfl
 | y::ys,l,h=>by
   unfold strs at h
   split at h
   ·rename_i e; cases e
   ·rename_i s r e
    simp only [List.cons.injEq] at e
    obtain ⟨rfl,rfl⟩:=e
    simp only [Option.map_eq_some_iff] at h
    obtain ⟨l',h1,rfl⟩:=h
    rw [strs_map _ _ h1]
    rfl
   ·cases h
theorem ints_map:∀ xs l,ints xs=some l→xs=l.map fun x:Int=>[.val (.int .i64 x)]
 | [],l,h=>by simp [ints] at h; subst h; rfl
 | y::ys,l,h=>by
   unfold ints at h
   split at h
   ·rename_i e; cases e
   ·rename_i s r e
    simp only [List.cons.injEq] at e
    obtain ⟨rfl,rfl⟩:=e
    simp only [Option.map_eq_some_iff] at h
    obtain ⟨l',h1,rfl⟩:=h
    rw [ints_map _ _ h1]
    rfl
   ·cases h
end Go.Evl.Zone

namespace Go.Evl
open Go Go.Proofs Go.RowKit
set_option maxHeartbeats 4000000 in
set_option maxRecDepth 100000 in
theorem insShiftS (b vb vo i n cap vcap:Nat) (c vc:Array Value) (t t2:TypeId) (w:World) (hb:w.heap[b]?=some (.cells c t (0,0))) (hvb:w.heap[vb]?=some (.cells vc t2 (0,0))) (hne:vb≠b) (hi:i < n) (hroom:n+1≤cap) (h63:n+1≤68719476736)
  (hc:c.size=cap * 8) (cs vs C1 C2:List Value) (hcs:cs=(c.toList.take (n * 8)).drop (i * 8)) (hvs:vs=(vc.toList.drop vo).take 8) (hvl:vs.length=8) (h1c:∀ v∈cs,v.oneCell'=true) (h1v:∀ v∈vs,v.oneCell'=true)
  (hC1:C1=setL c.toList ((i+1) * 8) cs) (hC2:C2=setL C1 (i * 8) vs) (hvk:vc.size≠0) :
  Calls Tryz.prog 142 #[.slice (some ⟨b,0,none⟩) n cap,.int .i64 i,.slice (some ⟨vb,vo,none⟩) 1 vcap] w fun e w' =>
   e = .returned (.slice (some ⟨b,0,none⟩) (n+1) cap)∧w'=(w.drew.setRow b C1.toArray).setRow b C2.toArray:=by
 have hsz:szOf Tryz.prog 75=some 8:=by kernel_rfl
 have hov:∀ lb cb,(callFunc 190 #[.slice (some ⟨vb,vo,none⟩) 1 vcap,.slice (some ⟨b,(i+1) * 8,none⟩) lb cb]).run Tryz.prog w = .ok (.value (.bool false)) w:=fun lb cb=>by
  rw [run_callFunc_extern Tryz.func190 (by kernel_rfl) (by kernel_rfl) (by kernel_rfl) (e:=Extern.SlicesOverlaps.overlaps #[44,44] #[4]) (by kernel_rfl),
   Lib.run_overlaps_apart w 44 4 75 Tryz.underlying44 8 (fun w=>run_sz hsz w) ⟨vb,vo,none⟩ ⟨b,(i+1) * 8,none⟩ 1 vcap lb cb hne t2 t vc.size c.size (by simp [World.shape?,hvb]) (by simp [World.shape?,hb]) (by omega) (frozen_cells hvb _) (frozen_cells hvb _)]
  rfl
 have hcl:cs.length=(n - i) * 8:=by
  rw [hcs]; simp; omega
 have hbd:w.drew.heap[b]?=some (.cells c t (0,0)):=hb
 have hlC1:C1.length=c.size:=by rw [hC1,setL_length _ _ _ (by simp; omega)]; simp
 have hb1:(w.drew.setRow b C1.toArray).heap[b]?=some (.cells C1.toArray t (0,0)):=setRow_heap _ _ _ _ _ _ hbd
 have hvb1:(w.drew.setRow b C1.toArray).heap[vb]?=some (.cells vc t2 (0,0)):=by rw [setRow_other _ _ _ _ hne]; exact hvb
 have hcp1:∀ ty dc sc,(Builtin.copy_ #[45,45] ty #[.slice (some ⟨b,(i+1) * 8,none⟩) (n+1 - (i+1)) dc,.slice (some ⟨b,i * 8,none⟩) (n+1 - i) sc]).run Tryz.prog w.drew = .ok (goInt (n - i:Nat)) (w.drew.setRow b C1.toArray):=fun ty dc sc=>by
  rw [hC1]
  exact run_copyK w.drew _ _ ty 75 b _ _ dc b _ _ sc 8 (n - i) c t cs Tryz.underlying45 hsz (by simp only [Nat.min_def]; split <;> omega) hcl hbd (by omega)
   (fun j v hj=>by
    rw [cell_of hbd,← Array.getElem?_toList]
    rw [hcs,List.getElem?_drop,List.getElem?_take] at hj
    split at hj
    ·exact hj
    ·cases hj) h1c
 have hcp2:∀ (W:World),W=w.drew.setRow b C1.toArray→∀ ty dc,(Builtin.copy_ #[45,44] ty #[.slice (some ⟨b,i * 8,none⟩) (n+1 - i) dc,.slice (some ⟨vb,vo,none⟩) 1 vcap]).run Tryz.prog W = .ok (goInt (1:Nat)) (W.setRow b C2.toArray):=fun W hW ty dc=>by
  subst hW
  rw [hC2]
  have:=run_copyK (P:=Tryz.prog) (w.drew.setRow b C1.toArray) 45 44 ty 75 b (i * 8) (n+1 - i) dc vb vo 1 vcap 8 1 C1.toArray t vs Tryz.underlying45 hsz (by simp only [Nat.min_def]; split <;> omega) (by omega) hb1 (by simp; omega)
   (fun j v hj=>by
    rw [cell_of hvb1,← Array.getElem?_toList]
    rw [hvs,List.getElem?_take] at hj
    split at hj
    ·rw [List.getElem?_drop] at hj; exact hj
    ·cases hj) h1v
  simpa using this
 have mixed:Tryz.prog.follows .mixedOrders=true:=by kernel_rfl
 have hw1:IntKind.i64.wrap ((i:Int)+1)=(i:Int)+1:=by rw [IntKind.wrap_i64]; omega
 have hb1':(0:Int)≤(i:Int)+1:=by omega
 have hin:i≤n:=by omega
 have htn:((i:Int)+1).toNat=i+1:=by omega
 have hb2:¬ (cap=i+1):=by omega
 have hb3:(i:Int)≤(n:Int)+1:=by omega
 have hb4:¬ (cap=i):=by omega
 have hb5:(i:Int)+1≤(n:Int)+1:=by omega
 clear hcs hvs hC1 hC2 hlC1 hb1 hvb1 hbd hb hvb
 go_enter Tryz.func142,Tryz.ntmps142
 go_wp2_with (simp only [hov])
 go_region_law_o (refine step_copy_runI rfl _ _ 45 45 rfl (.slice (some ⟨b,(i+1) * 8,none⟩) (n+1 - (i+1)) (cap - (i+1))) (.slice (some ⟨b,i * 8,none⟩) (n+1 - i) (cap - i)) (by simp [Act.eval,Act.put]) (by simp [Act.eval,Act.put]) (hcp1 _ _ _) ?_)
 go_wp2_with (at_builtin; refine wpList_copyI _ rfl _ _ 45 44 rfl _ _ rfl rfl (hcp2 _ rfl _ _) ?_)
 go_ret
 exact ⟨rfl,rfl⟩
set_option maxHeartbeats 4000000 in
set_option maxRecDepth 100000 in
theorem insGrowS (b vb vo i n cap vcap:Nat) (c vc:Array Value) (t t2:TypeId) (w:World) (hb:w.heap[b]?=some (.cells c t (0,0))) (hvb:w.heap[vb]?=some (.cells vc t2 (0,0))) (hi:i < n) (hnc:n≤cap) (hroom:cap < n+1) (hbig:n+1≤68719476736)
  (hc:n * 8≤c.size) (cs vs D1 D2:List Value) (ROW:Array Value) (i0:TypeInfo) (z:Value) (hi0:Tryz.prog.info? 75=some i0) (hz0:i0.zero=some z) (hs0:i0.size=8) (hzs:z.cells.size=8) (hbt:i0.bytes≤1024) (hcs:cs=c.toList.take (n * 8)) (hvs:vs=(vc.toList.drop vo).take 8) (hvl:vs.length=8) (h1c:∀ v∈cs,v.oneCell'=true) (h1v:∀ v∈vs,v.oneCell'=true)
  (hR:ROW=(cs.take (i * 8)).toArray++Builtin.zeroCells z.cells (n+1 - i)++Builtin.zeroCells z.cells (grownCap w (n+1) cap 75 - (n+1))) (hD1:D1=setL ROW.toList (i * 8) vs) (hD2:D2=setL D1 ((i+1) * 8) (cs.drop (i * 8))) :
  Calls Tryz.prog 142 #[.slice (some ⟨b,0,none⟩) n cap,.int .i64 i,.slice (some ⟨vb,vo,none⟩) 1 vcap] w fun e w' =>
   e = .returned (.slice (some ⟨w.heap.size,0,none⟩) (n+1) (grownCap w (n+1) cap 75))∧w'=((((w.alloc (.cells ROW 75)).drew).setRow w.heap.size D1.toArray).drew).setRow w.heap.size D2.toArray:=by
 have hsz:szOf Tryz.prog 75=some 8:=by simp [szOf,hi0,hs0]
 have hbw:b < w.heap.size:=lt_of_heap hb
 have hvw:vb < w.heap.size:=lt_of_heap hvb
 have hcl:cs.length=n * 8:=by rw [hcs]; simp; omega
 have hzc:(n:Int)+1 - (i:Int)=((n+1 - i:Nat):Int):=by omega
 have hik:i+(n+1 - i)=n+1:=by omega
 have hold:(Builtin.firstCells i0.size i (.slice (some ⟨b,0,none⟩) i cap)).run Tryz.prog w.drew = .ok (cs.take (i * 8)).toArray w.drew:=by
  rw [hs0]
  exact run_firstCells_some w.drew 8 i ⟨b,0,none⟩ i cap (cs.take (i * 8)) (by rw [List.length_take]; omega) (fun j v hj=>by
   rw [List.getElem?_take] at hj
   split at hj
   ·rw [hcs,List.getElem?_take] at hj
    split at hj
    ·rw [add_none,World.cell?_drew,cell_of hb,Nat.zero_add,← Array.getElem?_toList]; exact hj
    ·cases hj
   ·cases hj)
 have hby:(n+1) * i0.bytes≤68719476736 * 1024:=Nat.mul_le_mul hbig hbt
 have hby2:(n+1 - i) * i0.bytes≤(n+1) * i0.bytes:=Nat.mul_le_mul_right _ (by omega)
 have hrz:∀ ty,(Builtin.append_ #[45,3] ty #[.slice (some ⟨b,0,none⟩) i cap,.int .i64 ((n:Int)+1 - (i:Int))]).run Tryz.prog w = .ok (.slice (some ⟨w.heap.size,0,none⟩) (n+1) (grownCap w (n+1) cap 75)) (w.drew.alloc (.cells ROW 75)):=fun ty=>by
  have h:=Lib.run_append_grow_zeros w 45 3 ty 75 i0 z .i64 .i64 Tryz.underlying45 Tryz.underlying3 hi0 hz0 (some ⟨b,0,none⟩) i cap (cs.take (i * 8)) hold (n+1 - i) (by omega) (by omega) (by omega) (by omega) (by omega) (by rw [hik]; exact growslice_fits hroom (by omega))
  rw [hik] at h
  rw [hzc,hR]
  exact h
 obtain ⟨G,hG⟩:∃ G,G=grownCap w (n+1) cap 75:=⟨_,rfl⟩
 rw [← hG] at hrz hR ⊢
 have hGn:n+1≤G:=by rw [hG]; exact grownCap_ge w _ _ _
 have hG63:G≤9223372036854775807:=by
  have:=grownCap_le_maxLen w (n+1) cap 75 (by unfold maxLen; omega)
  rw [← hG] at this
  unfold maxLen at this
  omega
 have hRs:ROW.size=G * 8:=by
  rw [hR]
  simp only [Array.size_append,size_zeroCells,hzs,List.size_toArray,List.length_take,hcl]
  rw [Nat.min_eq_left (by omega)]
  omega
 obtain ⟨W1,hW1⟩:∃ W1,W1=w.drew.alloc (.cells ROW 75):=⟨_,rfl⟩
 have hN:W1.heap[w.heap.size]?=some (.cells ROW 75 (0,0)):=by rw [hW1]; exact heap_alloc_new w.drew _
 have hOv:W1.heap[vb]?=some (.cells vc t2 (0,0)):=by rw [hW1,heap_alloc_old _ _ (show vb < w.drew.heap.size from hvw)]; exact hvb
 have hOb:W1.heap[b]?=some (.cells c t (0,0)):=by rw [hW1,heap_alloc_old _ _ (show b < w.drew.heap.size from hbw)]; exact hb
 have hlD1:D1.length=G * 8:=by rw [hD1,setL_length _ _ _ (by simp; omega)]; simp [hRs]
 have hN2:(W1.setRow w.heap.size D1.toArray).heap[w.heap.size]?=some (.cells D1.toArray 75 (0,0)):=setRow_heap _ _ _ _ _ _ hN
 have hOb2:(W1.setRow w.heap.size D1.toArray).heap[b]?=some (.cells c t (0,0)):=by rw [setRow_other _ _ _ _ (by omega)]; exact hOb
 have hcpA:∀ (W:World),W.heap=W1.heap→∀ ty dc,(Builtin.copy_ #[45,44] ty #[.slice (some ⟨w.heap.size,i * 8,none⟩) (n+1 - i) dc,.slice (some ⟨vb,vo,none⟩) 1 vcap]).run Tryz.prog W = .ok (goInt (1:Nat)) (W.setRow w.heap.size D1.toArray):=fun W hW ty dc=>by
  rw [hD1]
  exact run_copyK W 45 44 ty 75 w.heap.size (i * 8) (n+1 - i) dc vb vo 1 vcap 8 1 ROW 75 vs Tryz.underlying45 hsz (by simp only [Nat.min_def]; split <;> omega) (by omega) (by rw [hW]; exact hN) (by omega)
   (fun j v hj=>by
    rw [cell_of (by rw [hW]; exact hOv),← Array.getElem?_toList]
    rw [hvs,List.getElem?_take] at hj
    split at hj
    ·rw [List.getElem?_drop] at hj; exact hj
    ·cases hj) h1v
 have hdl:(cs.drop (i * 8)).length=(n - i) * 8:=by rw [List.length_drop,hcl]; omega
 have hcpB:∀ (W:World),W.heap=(W1.setRow w.heap.size D1.toArray).heap→∀ ty dc sc,(Builtin.copy_ #[45,45] ty #[.slice (some ⟨w.heap.size,(i+1) * 8,none⟩) (n+1 - (i+1)) dc,.slice (some ⟨b,i * 8,none⟩) (n - i) sc]).run Tryz.prog W = .ok (goInt (n - i:Nat)) (W.setRow w.heap.size D2.toArray):=fun W hW ty dc sc=>by
  rw [hD2]
  exact run_copyK W 45 45 ty 75 w.heap.size ((i+1) * 8) (n+1 - (i+1)) dc b (i * 8) (n - i) sc 8 (n - i) D1.toArray 75 (cs.drop (i * 8)) Tryz.underlying45 hsz (by simp only [Nat.min_def]; split <;> omega) hdl (by rw [hW]; exact hN2) (by simp only [List.size_toArray]; omega)
   (fun j v hj=>by
    rw [cell_of (by rw [hW]; exact hOb2),← Array.getElem?_toList]
    rw [List.getElem?_drop,hcs,List.getElem?_take] at hj
    split at hj
    ·exact hj
    ·cases hj) (fun v hv=>h1c v (List.mem_of_mem_drop hv))
 have hGi:¬ (G=i):=by omega
 have hGim:¬ (G=i+1):=by omega
 have hci:¬ (cap=i):=by omega
 have hz2:¬ ((i:Int)=(n:Int)):=by omega
 have hz3:(cap:Int) < (n:Int)+1:=by omega
 have mixed:Tryz.prog.follows .mixedOrders=true:=by kernel_rfl
 have hw1:IntKind.i64.wrap ((i:Int)+1)=(i:Int)+1:=by rw [IntKind.wrap_i64]; omega
 have hb1':(0:Int)≤(i:Int)+1:=by omega
 have hin:i≤n:=by omega
 have htn:((i:Int)+1).toNat=i+1:=by omega
 have hb3:(i:Int)≤(n:Int):=by omega
 have hb3':(i:Int)≤(n:Int)+1:=by omega
 have hb5:(i:Int)+1≤(n:Int)+1:=by omega
 rw [← hW1] at hrz
 subst hW1
 have hF1:(((w.alloc (.cells ROW 75)).drew.setRow w.heap.size D1.toArray).drew).heap=((w.drew.alloc (.cells ROW 75)).setRow w.heap.size D1.toArray).heap:=rfl
 have hE1:((w.alloc (.cells ROW 75)).drew).heap=(w.drew.alloc (.cells ROW 75)).heap:=rfl
 clear hG hold hR hcs hvs hD1 hD2 hN hOv hOb hN2 hOb2 hlD1 hb hvb hzc hik
 go_enter Tryz.func142,Tryz.ntmps142
 go_wp2_with (first
  | (at_builtin; refine Lib.wpList_append_run _ rfl _ _ _ _ rfl _ _ rfl rfl _ _ (hrz _) ?_)
  | (at_builtin; refine wpList_copyI _ rfl _ _ 45 44 rfl _ _ rfl rfl (hcpA _ hE1 _ _) ?_))
 go_region_law_o (refine step_copy_runI rfl _ _ 45 45 rfl (.slice (some ⟨w.heap.size,(i+1) * 8,none⟩) (n+1 - (i+1)) (G - (i+1))) (.slice (some ⟨b,i * 8,none⟩) (n - i) (cap - i)) (by simp [Act.eval,Act.put]) (by simp [Act.eval,Act.put]) (hcpB _ hF1 3 (G - (i+1)) (cap - i)) ?_)
 go_wp2
 go_ret
 exact ⟨rfl,rfl⟩
set_option maxHeartbeats 4000000 in
set_option maxRecDepth 100000 in
theorem insEndS (base:Option Addr) (n cap vb vo vcap:Nat) (w w':World) (u:Value) (h63:n≤68719476736) (hr:∀ ty,(Builtin.append_ #[45,44] ty #[.slice base n cap,.slice (some ⟨vb,vo,none⟩) 1 vcap]).run Tryz.prog w = .ok u w') :
  Calls Tryz.prog 142 #[.slice base n cap,.int .i64 n,.slice (some ⟨vb,vo,none⟩) 1 vcap] w fun e w2=>e = .returned u∧w2=w':=by
 go_enter Tryz.func142,Tryz.ntmps142
 go_wp2_with (at_builtin; refine Lib.wpList_append_run _ rfl _ _ _ _ rfl _ _ rfl rfl _ _ (hr _) ?_)
 all_goals (go_ret; exact ⟨rfl,rfl⟩)
theorem insCS:InsC Tryz.prog 142 8 75 45 44:=⟨insShiftS,insGrowS,insEndS⟩
end Go.Evl

namespace Go.Evl
open Go Go.Proofs Go.RowKit
set_option maxHeartbeats 4000000 in
set_option maxRecDepth 100000 in
theorem insShiftK (b vb vo i n cap vcap:Nat) (c vc:Array Value) (t t2:TypeId) (w:World) (hb:w.heap[b]?=some (.cells c t (0,0))) (hvb:w.heap[vb]?=some (.cells vc t2 (0,0))) (hne:vb≠b) (hi:i < n) (hroom:n+1≤cap) (h63:n+1≤68719476736)
  (hc:c.size=cap * 3) (cs vs C1 C2:List Value) (hcs:cs=(c.toList.take (n * 3)).drop (i * 3)) (hvs:vs=(vc.toList.drop vo).take 3) (hvl:vs.length=3) (h1c:∀ v∈cs,v.oneCell'=true) (h1v:∀ v∈vs,v.oneCell'=true)
  (hC1:C1=setL c.toList ((i+1) * 3) cs) (hC2:C2=setL C1 (i * 3) vs) (hvk:vc.size≠0) :
  Calls Tryz.prog 203 #[.slice (some ⟨b,0,none⟩) n cap,.int .i64 i,.slice (some ⟨vb,vo,none⟩) 1 vcap] w fun e w' =>
   e = .returned (.slice (some ⟨b,0,none⟩) (n+1) cap)∧w'=(w.drew.setRow b C1.toArray).setRow b C2.toArray:=by
 have hsz:szOf Tryz.prog 168=some 3:=by kernel_rfl
 have hov:∀ lb cb,(callFunc 229 #[.slice (some ⟨vb,vo,none⟩) 1 vcap,.slice (some ⟨b,(i+1) * 3,none⟩) lb cb]).run Tryz.prog w = .ok (.value (.bool false)) w:=fun lb cb=>by
  rw [run_callFunc_extern Tryz.func229 (by kernel_rfl) (by kernel_rfl) (by kernel_rfl) (e:=Extern.SlicesOverlaps.overlaps #[40,40] #[4]) (by kernel_rfl),
   Lib.run_overlaps_apart w 40 4 168 Tryz.underlying40 3 (fun w=>run_sz hsz w) ⟨vb,vo,none⟩ ⟨b,(i+1) * 3,none⟩ 1 vcap lb cb hne t2 t vc.size c.size (by simp [World.shape?,hvb]) (by simp [World.shape?,hb]) (by omega) (frozen_cells hvb _) (frozen_cells hvb _)]
  rfl
 have hcl:cs.length=(n - i) * 3:=by
  rw [hcs]; simp; omega
 have hbd:w.drew.heap[b]?=some (.cells c t (0,0)):=hb
 have hlC1:C1.length=c.size:=by rw [hC1,setL_length _ _ _ (by simp; omega)]; simp
 have hb1:(w.drew.setRow b C1.toArray).heap[b]?=some (.cells C1.toArray t (0,0)):=setRow_heap _ _ _ _ _ _ hbd
 have hvb1:(w.drew.setRow b C1.toArray).heap[vb]?=some (.cells vc t2 (0,0)):=by rw [setRow_other _ _ _ _ hne]; exact hvb
 have hcp1:∀ ty dc sc,(Builtin.copy_ #[41,41] ty #[.slice (some ⟨b,(i+1) * 3,none⟩) (n+1 - (i+1)) dc,.slice (some ⟨b,i * 3,none⟩) (n+1 - i) sc]).run Tryz.prog w.drew = .ok (goInt (n - i:Nat)) (w.drew.setRow b C1.toArray):=fun ty dc sc=>by
  rw [hC1]
  exact run_copyK w.drew _ _ ty 168 b _ _ dc b _ _ sc 3 (n - i) c t cs Tryz.underlying41 hsz (by simp only [Nat.min_def]; split <;> omega) hcl hbd (by omega)
   (fun j v hj=>by
    rw [cell_of hbd,← Array.getElem?_toList]
    rw [hcs,List.getElem?_drop,List.getElem?_take] at hj
    split at hj
    ·exact hj
    ·cases hj) h1c
 have hcp2:∀ (W:World),W=w.drew.setRow b C1.toArray→∀ ty dc,(Builtin.copy_ #[41,40] ty #[.slice (some ⟨b,i * 3,none⟩) (n+1 - i) dc,.slice (some ⟨vb,vo,none⟩) 1 vcap]).run Tryz.prog W = .ok (goInt (1:Nat)) (W.setRow b C2.toArray):=fun W hW ty dc=>by
  subst hW
  rw [hC2]
  have:=run_copyK (P:=Tryz.prog) (w.drew.setRow b C1.toArray) 41 40 ty 168 b (i * 3) (n+1 - i) dc vb vo 1 vcap 3 1 C1.toArray t vs Tryz.underlying41 hsz (by simp only [Nat.min_def]; split <;> omega) (by omega) hb1 (by simp; omega)
   (fun j v hj=>by
    rw [cell_of hvb1,← Array.getElem?_toList]
    rw [hvs,List.getElem?_take] at hj
    split at hj
    ·rw [List.getElem?_drop] at hj; exact hj
    ·cases hj) h1v
  simpa using this
 have mixed:Tryz.prog.follows .mixedOrders=true:=by kernel_rfl
 have hw1:IntKind.i64.wrap ((i:Int)+1)=(i:Int)+1:=by rw [IntKind.wrap_i64]; omega
 have hb1':(0:Int)≤(i:Int)+1:=by omega
 have hin:i≤n:=by omega
 have htn:((i:Int)+1).toNat=i+1:=by omega
 have hb2:¬ (cap=i+1):=by omega
 have hb3:(i:Int)≤(n:Int)+1:=by omega
 have hb4:¬ (cap=i):=by omega
 have hb5:(i:Int)+1≤(n:Int)+1:=by omega
 clear hcs hvs hC1 hC2 hlC1 hb1 hvb1 hbd hb hvb
 go_enter Tryz.func203,Tryz.ntmps203
 go_wp2_with (simp only [hov])
 go_region_law_o (refine step_copy_runI rfl _ _ 41 41 rfl (.slice (some ⟨b,(i+1) * 3,none⟩) (n+1 - (i+1)) (cap - (i+1))) (.slice (some ⟨b,i * 3,none⟩) (n+1 - i) (cap - i)) (by simp [Act.eval,Act.put]) (by simp [Act.eval,Act.put]) (hcp1 _ _ _) ?_)
 go_wp2_with (at_builtin; refine wpList_copyI _ rfl _ _ 41 40 rfl _ _ rfl rfl (hcp2 _ rfl _ _) ?_)
 go_ret
 exact ⟨rfl,rfl⟩
set_option maxHeartbeats 4000000 in
set_option maxRecDepth 100000 in
theorem insGrowK (b vb vo i n cap vcap:Nat) (c vc:Array Value) (t t2:TypeId) (w:World) (hb:w.heap[b]?=some (.cells c t (0,0))) (hvb:w.heap[vb]?=some (.cells vc t2 (0,0))) (hi:i < n) (hnc:n≤cap) (hroom:cap < n+1) (hbig:n+1≤68719476736)
  (hc:n * 3≤c.size) (cs vs D1 D2:List Value) (ROW:Array Value) (i0:TypeInfo) (z:Value) (hi0:Tryz.prog.info? 168=some i0) (hz0:i0.zero=some z) (hs0:i0.size=3) (hzs:z.cells.size=3) (hbt:i0.bytes≤1024) (hcs:cs=c.toList.take (n * 3)) (hvs:vs=(vc.toList.drop vo).take 3) (hvl:vs.length=3) (h1c:∀ v∈cs,v.oneCell'=true) (h1v:∀ v∈vs,v.oneCell'=true)
  (hR:ROW=(cs.take (i * 3)).toArray++Builtin.zeroCells z.cells (n+1 - i)++Builtin.zeroCells z.cells (grownCap w (n+1) cap 168 - (n+1))) (hD1:D1=setL ROW.toList (i * 3) vs) (hD2:D2=setL D1 ((i+1) * 3) (cs.drop (i * 3))) :
  Calls Tryz.prog 203 #[.slice (some ⟨b,0,none⟩) n cap,.int .i64 i,.slice (some ⟨vb,vo,none⟩) 1 vcap] w fun e w' =>
   e = .returned (.slice (some ⟨w.heap.size,0,none⟩) (n+1) (grownCap w (n+1) cap 168))∧w'=((((w.alloc (.cells ROW 168)).drew).setRow w.heap.size D1.toArray).drew).setRow w.heap.size D2.toArray:=by
 have hsz:szOf Tryz.prog 168=some 3:=by simp [szOf,hi0,hs0]
 have hbw:b < w.heap.size:=lt_of_heap hb
 have hvw:vb < w.heap.size:=lt_of_heap hvb
 have hcl:cs.length=n * 3:=by rw [hcs]; simp; omega
 have hzc:(n:Int)+1 - (i:Int)=((n+1 - i:Nat):Int):=by omega
 have hik:i+(n+1 - i)=n+1:=by omega
 have hold:(Builtin.firstCells i0.size i (.slice (some ⟨b,0,none⟩) i cap)).run Tryz.prog w.drew = .ok (cs.take (i * 3)).toArray w.drew:=by
  rw [hs0]
  exact run_firstCells_some w.drew 3 i ⟨b,0,none⟩ i cap (cs.take (i * 3)) (by rw [List.length_take]; omega) (fun j v hj=>by
   rw [List.getElem?_take] at hj
   split at hj
   ·rw [hcs,List.getElem?_take] at hj
    split at hj
    ·rw [add_none,World.cell?_drew,cell_of hb,Nat.zero_add,← Array.getElem?_toList]; exact hj
    ·cases hj
   ·cases hj)
 have hby:(n+1) * i0.bytes≤68719476736 * 1024:=Nat.mul_le_mul hbig hbt
 have hby2:(n+1 - i) * i0.bytes≤(n+1) * i0.bytes:=Nat.mul_le_mul_right _ (by omega)
 have hrz:∀ ty,(Builtin.append_ #[41,3] ty #[.slice (some ⟨b,0,none⟩) i cap,.int .i64 ((n:Int)+1 - (i:Int))]).run Tryz.prog w = .ok (.slice (some ⟨w.heap.size,0,none⟩) (n+1) (grownCap w (n+1) cap 168)) (w.drew.alloc (.cells ROW 168)):=fun ty=>by
  have h:=Lib.run_append_grow_zeros w 41 3 ty 168 i0 z .i64 .i64 Tryz.underlying41 Tryz.underlying3 hi0 hz0 (some ⟨b,0,none⟩) i cap (cs.take (i * 3)) hold (n+1 - i) (by omega) (by omega) (by omega) (by omega) (by omega) (by rw [hik]; exact growslice_fits hroom (by omega))
  rw [hik] at h
  rw [hzc,hR]
  exact h
 obtain ⟨G,hG⟩:∃ G,G=grownCap w (n+1) cap 168:=⟨_,rfl⟩
 rw [← hG] at hrz hR ⊢
 have hGn:n+1≤G:=by rw [hG]; exact grownCap_ge w _ _ _
 have hG63:G≤9223372036854775807:=by
  have:=grownCap_le_maxLen w (n+1) cap 168 (by unfold maxLen; omega)
  rw [← hG] at this
  unfold maxLen at this
  omega
 have hRs:ROW.size=G * 3:=by
  rw [hR]
  simp only [Array.size_append,size_zeroCells,hzs,List.size_toArray,List.length_take,hcl]
  rw [Nat.min_eq_left (by omega)]
  omega
 obtain ⟨W1,hW1⟩:∃ W1,W1=w.drew.alloc (.cells ROW 168):=⟨_,rfl⟩
 have hN:W1.heap[w.heap.size]?=some (.cells ROW 168 (0,0)):=by rw [hW1]; exact heap_alloc_new w.drew _
 have hOv:W1.heap[vb]?=some (.cells vc t2 (0,0)):=by rw [hW1,heap_alloc_old _ _ (show vb < w.drew.heap.size from hvw)]; exact hvb
 have hOb:W1.heap[b]?=some (.cells c t (0,0)):=by rw [hW1,heap_alloc_old _ _ (show b < w.drew.heap.size from hbw)]; exact hb
 have hlD1:D1.length=G * 3:=by rw [hD1,setL_length _ _ _ (by simp; omega)]; simp [hRs]
 have hN2:(W1.setRow w.heap.size D1.toArray).heap[w.heap.size]?=some (.cells D1.toArray 168 (0,0)):=setRow_heap _ _ _ _ _ _ hN
 have hOb2:(W1.setRow w.heap.size D1.toArray).heap[b]?=some (.cells c t (0,0)):=by rw [setRow_other _ _ _ _ (by omega)]; exact hOb
 have hcpA:∀ (W:World),W.heap=W1.heap→∀ ty dc,(Builtin.copy_ #[41,40] ty #[.slice (some ⟨w.heap.size,i * 3,none⟩) (n+1 - i) dc,.slice (some ⟨vb,vo,none⟩) 1 vcap]).run Tryz.prog W = .ok (goInt (1:Nat)) (W.setRow w.heap.size D1.toArray):=fun W hW ty dc=>by
  rw [hD1]
  exact run_copyK W 41 40 ty 168 w.heap.size (i * 3) (n+1 - i) dc vb vo 1 vcap 3 1 ROW 168 vs Tryz.underlying41 hsz (by simp only [Nat.min_def]; split <;> omega) (by omega) (by rw [hW]; exact hN) (by omega)
   (fun j v hj=>by
    rw [cell_of (by rw [hW]; exact hOv),← Array.getElem?_toList]
    rw [hvs,List.getElem?_take] at hj
    split at hj
    ·rw [List.getElem?_drop] at hj; exact hj
    ·cases hj) h1v
 have hdl:(cs.drop (i * 3)).length=(n - i) * 3:=by rw [List.length_drop,hcl]; omega
 have hcpB:∀ (W:World),W.heap=(W1.setRow w.heap.size D1.toArray).heap→∀ ty dc sc,(Builtin.copy_ #[41,41] ty #[.slice (some ⟨w.heap.size,(i+1) * 3,none⟩) (n+1 - (i+1)) dc,.slice (some ⟨b,i * 3,none⟩) (n - i) sc]).run Tryz.prog W = .ok (goInt (n - i:Nat)) (W.setRow w.heap.size D2.toArray):=fun W hW ty dc sc=>by
  rw [hD2]
  exact run_copyK W 41 41 ty 168 w.heap.size ((i+1) * 3) (n+1 - (i+1)) dc b (i * 3) (n - i) sc 3 (n - i) D1.toArray 168 (cs.drop (i * 3)) Tryz.underlying41 hsz (by simp only [Nat.min_def]; split <;> omega) hdl (by rw [hW]; exact hN2) (by simp only [List.size_toArray]; omega)
   (fun j v hj=>by
    rw [cell_of (by rw [hW]; exact hOb2),← Array.getElem?_toList]
    rw [List.getElem?_drop,hcs,List.getElem?_take] at hj
    split at hj
    ·exact hj
    ·cases hj) (fun v hv=>h1c v (List.mem_of_mem_drop hv))
 have hGi:¬ (G=i):=by omega
 have hGim:¬ (G=i+1):=by omega
 have hci:¬ (cap=i):=by omega
 have hz2:¬ ((i:Int)=(n:Int)):=by omega
 have hz3:(cap:Int) < (n:Int)+1:=by omega
 have mixed:Tryz.prog.follows .mixedOrders=true:=by kernel_rfl
 have hw1:IntKind.i64.wrap ((i:Int)+1)=(i:Int)+1:=by rw [IntKind.wrap_i64]; omega
 have hb1':(0:Int)≤(i:Int)+1:=by omega
 have hin:i≤n:=by omega
 have htn:((i:Int)+1).toNat=i+1:=by omega
 have hb3:(i:Int)≤(n:Int):=by omega
 have hb3':(i:Int)≤(n:Int)+1:=by omega
 have hb5:(i:Int)+1≤(n:Int)+1:=by omega
 rw [← hW1] at hrz
 subst hW1
 have hF1:(((w.alloc (.cells ROW 168)).drew.setRow w.heap.size D1.toArray).drew).heap=((w.drew.alloc (.cells ROW 168)).setRow w.heap.size D1.toArray).heap:=rfl
 have hE1:((w.alloc (.cells ROW 168)).drew).heap=(w.drew.alloc (.cells ROW 168)).heap:=rfl
 clear hG hold hR hcs hvs hD1 hD2 hN hOv hOb hN2 hOb2 hlD1 hb hvb hzc hik
 go_enter Tryz.func203,Tryz.ntmps203
 go_wp2_with (first
  | (at_builtin; refine Lib.wpList_append_run _ rfl _ _ _ _ rfl _ _ rfl rfl _ _ (hrz _) ?_)
  | (at_builtin; refine wpList_copyI _ rfl _ _ 41 40 rfl _ _ rfl rfl (hcpA _ hE1 _ _) ?_))
 go_region_law_o (refine step_copy_runI rfl _ _ 41 41 rfl (.slice (some ⟨w.heap.size,(i+1) * 3,none⟩) (n+1 - (i+1)) (G - (i+1))) (.slice (some ⟨b,i * 3,none⟩) (n - i) (cap - i)) (by simp [Act.eval,Act.put]) (by simp [Act.eval,Act.put]) (hcpB _ hF1 3 (G - (i+1)) (cap - i)) ?_)
 go_wp2
 go_ret
 exact ⟨rfl,rfl⟩
set_option maxHeartbeats 4000000 in
set_option maxRecDepth 100000 in
theorem insEndK (base:Option Addr) (n cap vb vo vcap:Nat) (w w':World) (u:Value) (h63:n≤68719476736) (hr:∀ ty,(Builtin.append_ #[41,40] ty #[.slice base n cap,.slice (some ⟨vb,vo,none⟩) 1 vcap]).run Tryz.prog w = .ok u w') :
  Calls Tryz.prog 203 #[.slice base n cap,.int .i64 n,.slice (some ⟨vb,vo,none⟩) 1 vcap] w fun e w2=>e = .returned u∧w2=w':=by
 go_enter Tryz.func203,Tryz.ntmps203
 go_wp2_with (at_builtin; refine Lib.wpList_append_run _ rfl _ _ _ _ rfl _ _ rfl rfl _ _ (hr _) ?_)
 all_goals (go_ret; exact ⟨rfl,rfl⟩)
theorem insCK:InsC Tryz.prog 203 3 168 41 40:=⟨insShiftK,insGrowK,insEndK⟩
end Go.Evl

namespace Go.Evl
open Go Go.Proofs Go.RowKit
set_option maxHeartbeats 4000000 in
set_option maxRecDepth 100000 in
theorem insShiftV (b vb vo i n cap vcap:Nat) (c vc:Array Value) (t t2:TypeId) (w:World) (hb:w.heap[b]?=some (.cells c t (0,0))) (hvb:w.heap[vb]?=some (.cells vc t2 (0,0))) (hne:vb≠b) (hi:i < n) (hroom:n+1≤cap) (h63:n+1≤68719476736)
  (hc:c.size=cap * 2) (cs vs C1 C2:List Value) (hcs:cs=(c.toList.take (n * 2)).drop (i * 2)) (hvs:vs=(vc.toList.drop vo).take 2) (hvl:vs.length=2) (h1c:∀ v∈cs,v.oneCell'=true) (h1v:∀ v∈vs,v.oneCell'=true)
  (hC1:C1=setL c.toList ((i+1) * 2) cs) (hC2:C2=setL C1 (i * 2) vs) (hvk:vc.size≠0) :
  Calls Tryz.prog 192 #[.slice (some ⟨b,0,none⟩) n cap,.int .i64 i,.slice (some ⟨vb,vo,none⟩) 1 vcap] w fun e w' =>
   e = .returned (.slice (some ⟨b,0,none⟩) (n+1) cap)∧w'=(w.drew.setRow b C1.toArray).setRow b C2.toArray:=by
 have hsz:szOf Tryz.prog 206=some 2:=by kernel_rfl
 have hov:∀ lb cb,(callFunc 223 #[.slice (some ⟨vb,vo,none⟩) 1 vcap,.slice (some ⟨b,(i+1) * 2,none⟩) lb cb]).run Tryz.prog w = .ok (.value (.bool false)) w:=fun lb cb=>by
  rw [run_callFunc_extern Tryz.func223 (by kernel_rfl) (by kernel_rfl) (by kernel_rfl) (e:=Extern.SlicesOverlaps.overlaps #[42,42] #[4]) (by kernel_rfl),
   Lib.run_overlaps_apart w 42 4 206 Tryz.underlying42 2 (fun w=>run_sz hsz w) ⟨vb,vo,none⟩ ⟨b,(i+1) * 2,none⟩ 1 vcap lb cb hne t2 t vc.size c.size (by simp [World.shape?,hvb]) (by simp [World.shape?,hb]) (by omega) (frozen_cells hvb _) (frozen_cells hvb _)]
  rfl
 have hcl:cs.length=(n - i) * 2:=by
  rw [hcs]; simp; omega
 have hbd:w.drew.heap[b]?=some (.cells c t (0,0)):=hb
 have hlC1:C1.length=c.size:=by rw [hC1,setL_length _ _ _ (by simp; omega)]; simp
 have hb1:(w.drew.setRow b C1.toArray).heap[b]?=some (.cells C1.toArray t (0,0)):=setRow_heap _ _ _ _ _ _ hbd
 have hvb1:(w.drew.setRow b C1.toArray).heap[vb]?=some (.cells vc t2 (0,0)):=by rw [setRow_other _ _ _ _ hne]; exact hvb
 have hcp1:∀ ty dc sc,(Builtin.copy_ #[43,43] ty #[.slice (some ⟨b,(i+1) * 2,none⟩) (n+1 - (i+1)) dc,.slice (some ⟨b,i * 2,none⟩) (n+1 - i) sc]).run Tryz.prog w.drew = .ok (goInt (n - i:Nat)) (w.drew.setRow b C1.toArray):=fun ty dc sc=>by
  rw [hC1]
  exact run_copyK w.drew _ _ ty 206 b _ _ dc b _ _ sc 2 (n - i) c t cs Tryz.underlying43 hsz (by simp only [Nat.min_def]; split <;> omega) hcl hbd (by omega)
   (fun j v hj=>by
    rw [cell_of hbd,← Array.getElem?_toList]
    rw [hcs,List.getElem?_drop,List.getElem?_take] at hj
    split at hj
    ·exact hj
    ·cases hj) h1c
 have hcp2:∀ (W:World),W=w.drew.setRow b C1.toArray→∀ ty dc,(Builtin.copy_ #[43,42] ty #[.slice (some ⟨b,i * 2,none⟩) (n+1 - i) dc,.slice (some ⟨vb,vo,none⟩) 1 vcap]).run Tryz.prog W = .ok (goInt (1:Nat)) (W.setRow b C2.toArray):=fun W hW ty dc=>by
  subst hW
  rw [hC2]
  have:=run_copyK (P:=Tryz.prog) (w.drew.setRow b C1.toArray) 43 42 ty 206 b (i * 2) (n+1 - i) dc vb vo 1 vcap 2 1 C1.toArray t vs Tryz.underlying43 hsz (by simp only [Nat.min_def]; split <;> omega) (by omega) hb1 (by simp; omega)
   (fun j v hj=>by
    rw [cell_of hvb1,← Array.getElem?_toList]
    rw [hvs,List.getElem?_take] at hj
    split at hj
    ·rw [List.getElem?_drop] at hj; exact hj
    ·cases hj) h1v
  simpa using this
 have mixed:Tryz.prog.follows .mixedOrders=true:=by kernel_rfl
 have hw1:IntKind.i64.wrap ((i:Int)+1)=(i:Int)+1:=by rw [IntKind.wrap_i64]; omega
 have hb1':(0:Int)≤(i:Int)+1:=by omega
 have hin:i≤n:=by omega
 have htn:((i:Int)+1).toNat=i+1:=by omega
 have hb2:¬ (cap=i+1):=by omega
 have hb3:(i:Int)≤(n:Int)+1:=by omega
 have hb4:¬ (cap=i):=by omega
 have hb5:(i:Int)+1≤(n:Int)+1:=by omega
 clear hcs hvs hC1 hC2 hlC1 hb1 hvb1 hbd hb hvb
 go_enter Tryz.func192,Tryz.ntmps192
 go_wp2_with (simp only [hov])
 go_region_law_o (refine step_copy_runI rfl _ _ 43 43 rfl (.slice (some ⟨b,(i+1) * 2,none⟩) (n+1 - (i+1)) (cap - (i+1))) (.slice (some ⟨b,i * 2,none⟩) (n+1 - i) (cap - i)) (by simp [Act.eval,Act.put]) (by simp [Act.eval,Act.put]) (hcp1 _ _ _) ?_)
 go_wp2_with (at_builtin; refine wpList_copyI _ rfl _ _ 43 42 rfl _ _ rfl rfl (hcp2 _ rfl _ _) ?_)
 go_ret
 exact ⟨rfl,rfl⟩
set_option maxHeartbeats 4000000 in
set_option maxRecDepth 100000 in
theorem insGrowV (b vb vo i n cap vcap:Nat) (c vc:Array Value) (t t2:TypeId) (w:World) (hb:w.heap[b]?=some (.cells c t (0,0))) (hvb:w.heap[vb]?=some (.cells vc t2 (0,0))) (hi:i < n) (hnc:n≤cap) (hroom:cap < n+1) (hbig:n+1≤68719476736)
  (hc:n * 2≤c.size) (cs vs D1 D2:List Value) (ROW:Array Value) (i0:TypeInfo) (z:Value) (hi0:Tryz.prog.info? 206=some i0) (hz0:i0.zero=some z) (hs0:i0.size=2) (hzs:z.cells.size=2) (hbt:i0.bytes≤1024) (hcs:cs=c.toList.take (n * 2)) (hvs:vs=(vc.toList.drop vo).take 2) (hvl:vs.length=2) (h1c:∀ v∈cs,v.oneCell'=true) (h1v:∀ v∈vs,v.oneCell'=true)
  (hR:ROW=(cs.take (i * 2)).toArray++Builtin.zeroCells z.cells (n+1 - i)++Builtin.zeroCells z.cells (grownCap w (n+1) cap 206 - (n+1))) (hD1:D1=setL ROW.toList (i * 2) vs) (hD2:D2=setL D1 ((i+1) * 2) (cs.drop (i * 2))) :
  Calls Tryz.prog 192 #[.slice (some ⟨b,0,none⟩) n cap,.int .i64 i,.slice (some ⟨vb,vo,none⟩) 1 vcap] w fun e w' =>
   e = .returned (.slice (some ⟨w.heap.size,0,none⟩) (n+1) (grownCap w (n+1) cap 206))∧w'=((((w.alloc (.cells ROW 206)).drew).setRow w.heap.size D1.toArray).drew).setRow w.heap.size D2.toArray:=by
 have hsz:szOf Tryz.prog 206=some 2:=by simp [szOf,hi0,hs0]
 have hbw:b < w.heap.size:=lt_of_heap hb
 have hvw:vb < w.heap.size:=lt_of_heap hvb
 have hcl:cs.length=n * 2:=by rw [hcs]; simp; omega
 have hzc:(n:Int)+1 - (i:Int)=((n+1 - i:Nat):Int):=by omega
 have hik:i+(n+1 - i)=n+1:=by omega
 have hold:(Builtin.firstCells i0.size i (.slice (some ⟨b,0,none⟩) i cap)).run Tryz.prog w.drew = .ok (cs.take (i * 2)).toArray w.drew:=by
  rw [hs0]
  exact run_firstCells_some w.drew 2 i ⟨b,0,none⟩ i cap (cs.take (i * 2)) (by rw [List.length_take]; omega) (fun j v hj=>by
   rw [List.getElem?_take] at hj
   split at hj
   ·rw [hcs,List.getElem?_take] at hj
    split at hj
    ·rw [add_none,World.cell?_drew,cell_of hb,Nat.zero_add,← Array.getElem?_toList]; exact hj
    ·cases hj
   ·cases hj)
 have hby:(n+1) * i0.bytes≤68719476736 * 1024:=Nat.mul_le_mul hbig hbt
 have hby2:(n+1 - i) * i0.bytes≤(n+1) * i0.bytes:=Nat.mul_le_mul_right _ (by omega)
 have hrz:∀ ty,(Builtin.append_ #[43,3] ty #[.slice (some ⟨b,0,none⟩) i cap,.int .i64 ((n:Int)+1 - (i:Int))]).run Tryz.prog w = .ok (.slice (some ⟨w.heap.size,0,none⟩) (n+1) (grownCap w (n+1) cap 206)) (w.drew.alloc (.cells ROW 206)):=fun ty=>by
  have h:=Lib.run_append_grow_zeros w 43 3 ty 206 i0 z .i64 .i64 Tryz.underlying43 Tryz.underlying3 hi0 hz0 (some ⟨b,0,none⟩) i cap (cs.take (i * 2)) hold (n+1 - i) (by omega) (by omega) (by omega) (by omega) (by omega) (by rw [hik]; exact growslice_fits hroom (by omega))
  rw [hik] at h
  rw [hzc,hR]
  exact h
 obtain ⟨G,hG⟩:∃ G,G=grownCap w (n+1) cap 206:=⟨_,rfl⟩
 rw [← hG] at hrz hR ⊢
 have hGn:n+1≤G:=by rw [hG]; exact grownCap_ge w _ _ _
 have hG63:G≤9223372036854775807:=by
  have:=grownCap_le_maxLen w (n+1) cap 206 (by unfold maxLen; omega)
  rw [← hG] at this
  unfold maxLen at this
  omega
 have hRs:ROW.size=G * 2:=by
  rw [hR]
  simp only [Array.size_append,size_zeroCells,hzs,List.size_toArray,List.length_take,hcl]
  rw [Nat.min_eq_left (by omega)]
  omega
 obtain ⟨W1,hW1⟩:∃ W1,W1=w.drew.alloc (.cells ROW 206):=⟨_,rfl⟩
 have hN:W1.heap[w.heap.size]?=some (.cells ROW 206 (0,0)):=by rw [hW1]; exact heap_alloc_new w.drew _
 have hOv:W1.heap[vb]?=some (.cells vc t2 (0,0)):=by rw [hW1,heap_alloc_old _ _ (show vb < w.drew.heap.size from hvw)]; exact hvb
 have hOb:W1.heap[b]?=some (.cells c t (0,0)):=by rw [hW1,heap_alloc_old _ _ (show b < w.drew.heap.size from hbw)]; exact hb
 have hlD1:D1.length=G * 2:=by rw [hD1,setL_length _ _ _ (by simp; omega)]; simp [hRs]
 have hN2:(W1.setRow w.heap.size D1.toArray).heap[w.heap.size]?=some (.cells D1.toArray 206 (0,0)):=setRow_heap _ _ _ _ _ _ hN
 have hOb2:(W1.setRow w.heap.size D1.toArray).heap[b]?=some (.cells c t (0,0)):=by rw [setRow_other _ _ _ _ (by omega)]; exact hOb
 have hcpA:∀ (W:World),W.heap=W1.heap→∀ ty dc,(Builtin.copy_ #[43,42] ty #[.slice (some ⟨w.heap.size,i * 2,none⟩) (n+1 - i) dc,.slice (some ⟨vb,vo,none⟩) 1 vcap]).run Tryz.prog W = .ok (goInt (1:Nat)) (W.setRow w.heap.size D1.toArray):=fun W hW ty dc=>by
  rw [hD1]
  exact run_copyK W 43 42 ty 206 w.heap.size (i * 2) (n+1 - i) dc vb vo 1 vcap 2 1 ROW 206 vs Tryz.underlying43 hsz (by simp only [Nat.min_def]; split <;> omega) (by omega) (by rw [hW]; exact hN) (by omega)
   (fun j v hj=>by
    rw [cell_of (by rw [hW]; exact hOv),← Array.getElem?_toList]
    rw [hvs,List.getElem?_take] at hj
    split at hj
    ·rw [List.getElem?_drop] at hj; exact hj
    ·cases hj) h1v
 have hdl:(cs.drop (i * 2)).length=(n - i) * 2:=by rw [List.length_drop,hcl]; omega
 have hcpB:∀ (W:World),W.heap=(W1.setRow w.heap.size D1.toArray).heap→∀ ty dc sc,(Builtin.copy_ #[43,43] ty #[.slice (some ⟨w.heap.size,(i+1) * 2,none⟩) (n+1 - (i+1)) dc,.slice (some ⟨b,i * 2,none⟩) (n - i) sc]).run Tryz.prog W = .ok (goInt (n - i:Nat)) (W.setRow w.heap.size D2.toArray):=fun W hW ty dc sc=>by
  rw [hD2]
  exact run_copyK W 43 43 ty 206 w.heap.size ((i+1) * 2) (n+1 - (i+1)) dc b (i * 2) (n - i) sc 2 (n - i) D1.toArray 206 (cs.drop (i * 2)) Tryz.underlying43 hsz (by simp only [Nat.min_def]; split <;> omega) hdl (by rw [hW]; exact hN2) (by simp only [List.size_toArray]; omega)
   (fun j v hj=>by
    rw [cell_of (by rw [hW]; exact hOb2),← Array.getElem?_toList]
    rw [List.getElem?_drop,hcs,List.getElem?_take] at hj
    split at hj
    ·exact hj
    ·cases hj) (fun v hv=>h1c v (List.mem_of_mem_drop hv))
 have hGi:¬ (G=i):=by omega
 have hGim:¬ (G=i+1):=by omega
 have hci:¬ (cap=i):=by omega
 have hz2:¬ ((i:Int)=(n:Int)):=by omega
 have hz3:(cap:Int) < (n:Int)+1:=by omega
 have mixed:Tryz.prog.follows .mixedOrders=true:=by kernel_rfl
 have hw1:IntKind.i64.wrap ((i:Int)+1)=(i:Int)+1:=by rw [IntKind.wrap_i64]; omega
 have hb1':(0:Int)≤(i:Int)+1:=by omega
 have hin:i≤n:=by omega
 have htn:((i:Int)+1).toNat=i+1:=by omega
 have hb3:(i:Int)≤(n:Int):=by omega
 have hb3':(i:Int)≤(n:Int)+1:=by omega
 have hb5:(i:Int)+1≤(n:Int)+1:=by omega
 rw [← hW1] at hrz
 subst hW1
 have hF1:(((w.alloc (.cells ROW 206)).drew.setRow w.heap.size D1.toArray).drew).heap=((w.drew.alloc (.cells ROW 206)).setRow w.heap.size D1.toArray).heap:=rfl
 have hE1:((w.alloc (.cells ROW 206)).drew).heap=(w.drew.alloc (.cells ROW 206)).heap:=rfl
 clear hG hold hR hcs hvs hD1 hD2 hN hOv hOb hN2 hOb2 hlD1 hb hvb hzc hik
 go_enter Tryz.func192,Tryz.ntmps192
 go_wp2_with (first
  | (at_builtin; refine Lib.wpList_append_run _ rfl _ _ _ _ rfl _ _ rfl rfl _ _ (hrz _) ?_)
  | (at_builtin; refine wpList_copyI _ rfl _ _ 43 42 rfl _ _ rfl rfl (hcpA _ hE1 _ _) ?_))
 go_region_law_o (refine step_copy_runI rfl _ _ 43 43 rfl (.slice (some ⟨w.heap.size,(i+1) * 2,none⟩) (n+1 - (i+1)) (G - (i+1))) (.slice (some ⟨b,i * 2,none⟩) (n - i) (cap - i)) (by simp [Act.eval,Act.put]) (by simp [Act.eval,Act.put]) (hcpB _ hF1 3 (G - (i+1)) (cap - i)) ?_)
 go_wp2
 go_ret
 exact ⟨rfl,rfl⟩
set_option maxHeartbeats 4000000 in
set_option maxRecDepth 100000 in
theorem insEndV (base:Option Addr) (n cap vb vo vcap:Nat) (w w':World) (u:Value) (h63:n≤68719476736) (hr:∀ ty,(Builtin.append_ #[43,42] ty #[.slice base n cap,.slice (some ⟨vb,vo,none⟩) 1 vcap]).run Tryz.prog w = .ok u w') :
  Calls Tryz.prog 192 #[.slice base n cap,.int .i64 n,.slice (some ⟨vb,vo,none⟩) 1 vcap] w fun e w2=>e = .returned u∧w2=w':=by
 go_enter Tryz.func192,Tryz.ntmps192
 go_wp2_with (at_builtin; refine Lib.wpList_append_run _ rfl _ _ _ _ rfl _ _ rfl rfl _ _ (hr _) ?_)
 all_goals (go_ret; exact ⟨rfl,rfl⟩)
theorem insCV:InsC Tryz.prog 192 2 206 43 42:=⟨insShiftV,insGrowV,insEndV⟩
end Go.Evl

namespace Go.Evl
open Go Go.Proofs Go.RowKit
set_option maxHeartbeats 4000000 in
set_option maxRecDepth 100000 in
theorem insShiftM (b vb vo i n cap vcap:Nat) (c vc:Array Value) (t t2:TypeId) (w:World) (hb:w.heap[b]?=some (.cells c t (0,0))) (hvb:w.heap[vb]?=some (.cells vc t2 (0,0))) (hne:vb≠b) (hi:i < n) (hroom:n+1≤cap) (h63:n+1≤68719476736)
  (hc:c.size=cap * 2) (cs vs C1 C2:List Value) (hcs:cs=(c.toList.take (n * 2)).drop (i * 2)) (hvs:vs=(vc.toList.drop vo).take 2) (hvl:vs.length=2) (h1c:∀ v∈cs,v.oneCell'=true) (h1v:∀ v∈vs,v.oneCell'=true)
  (hC1:C1=setL c.toList ((i+1) * 2) cs) (hC2:C2=setL C1 (i * 2) vs) (hvk:vc.size≠0) :
  Calls Tryz.prog 154 #[.slice (some ⟨b,0,none⟩) n cap,.int .i64 i,.slice (some ⟨vb,vo,none⟩) 1 vcap] w fun e w' =>
   e = .returned (.slice (some ⟨b,0,none⟩) (n+1) cap)∧w'=(w.drew.setRow b C1.toArray).setRow b C2.toArray:=by
 have hsz:szOf Tryz.prog 208=some 2:=by kernel_rfl
 have hov:∀ lb cb,(callFunc 199 #[.slice (some ⟨vb,vo,none⟩) 1 vcap,.slice (some ⟨b,(i+1) * 2,none⟩) lb cb]).run Tryz.prog w = .ok (.value (.bool false)) w:=fun lb cb=>by
  rw [run_callFunc_extern Tryz.func199 (by kernel_rfl) (by kernel_rfl) (by kernel_rfl) (e:=Extern.SlicesOverlaps.overlaps #[49,49] #[4]) (by kernel_rfl),
   Lib.run_overlaps_apart w 49 4 208 Tryz.underlying49 2 (fun w=>run_sz hsz w) ⟨vb,vo,none⟩ ⟨b,(i+1) * 2,none⟩ 1 vcap lb cb hne t2 t vc.size c.size (by simp [World.shape?,hvb]) (by simp [World.shape?,hb]) (by omega) (frozen_cells hvb _) (frozen_cells hvb _)]
  rfl
 have hcl:cs.length=(n - i) * 2:=by
  rw [hcs]; simp; omega
 have hbd:w.drew.heap[b]?=some (.cells c t (0,0)):=hb
 have hlC1:C1.length=c.size:=by rw [hC1,setL_length _ _ _ (by simp; omega)]; simp
 have hb1:(w.drew.setRow b C1.toArray).heap[b]?=some (.cells C1.toArray t (0,0)):=setRow_heap _ _ _ _ _ _ hbd
 have hvb1:(w.drew.setRow b C1.toArray).heap[vb]?=some (.cells vc t2 (0,0)):=by rw [setRow_other _ _ _ _ hne]; exact hvb
 have hcp1:∀ ty dc sc,(Builtin.copy_ #[50,50] ty #[.slice (some ⟨b,(i+1) * 2,none⟩) (n+1 - (i+1)) dc,.slice (some ⟨b,i * 2,none⟩) (n+1 - i) sc]).run Tryz.prog w.drew = .ok (goInt (n - i:Nat)) (w.drew.setRow b C1.toArray):=fun ty dc sc=>by
  rw [hC1]
  exact run_copyK w.drew _ _ ty 208 b _ _ dc b _ _ sc 2 (n - i) c t cs Tryz.underlying50 hsz (by simp only [Nat.min_def]; split <;> omega) hcl hbd (by omega)
   (fun j v hj=>by
    rw [cell_of hbd,← Array.getElem?_toList]
    rw [hcs,List.getElem?_drop,List.getElem?_take] at hj
    split at hj
    ·exact hj
    ·cases hj) h1c
 have hcp2:∀ (W:World),W=w.drew.setRow b C1.toArray→∀ ty dc,(Builtin.copy_ #[50,49] ty #[.slice (some ⟨b,i * 2,none⟩) (n+1 - i) dc,.slice (some ⟨vb,vo,none⟩) 1 vcap]).run Tryz.prog W = .ok (goInt (1:Nat)) (W.setRow b C2.toArray):=fun W hW ty dc=>by
  subst hW
  rw [hC2]
  have:=run_copyK (P:=Tryz.prog) (w.drew.setRow b C1.toArray) 50 49 ty 208 b (i * 2) (n+1 - i) dc vb vo 1 vcap 2 1 C1.toArray t vs Tryz.underlying50 hsz (by simp only [Nat.min_def]; split <;> omega) (by omega) hb1 (by simp; omega)
   (fun j v hj=>by
    rw [cell_of hvb1,← Array.getElem?_toList]
    rw [hvs,List.getElem?_take] at hj
    split at hj
    ·rw [List.getElem?_drop] at hj; exact hj
    ·cases hj) h1v
  simpa using this
 have mixed:Tryz.prog.follows .mixedOrders=true:=by kernel_rfl
 have hw1:IntKind.i64.wrap ((i:Int)+1)=(i:Int)+1:=by rw [IntKind.wrap_i64]; omega
 have hb1':(0:Int)≤(i:Int)+1:=by omega
 have hin:i≤n:=by omega
 have htn:((i:Int)+1).toNat=i+1:=by omega
 have hb2:¬ (cap=i+1):=by omega
 have hb3:(i:Int)≤(n:Int)+1:=by omega
 have hb4:¬ (cap=i):=by omega
 have hb5:(i:Int)+1≤(n:Int)+1:=by omega
 clear hcs hvs hC1 hC2 hlC1 hb1 hvb1 hbd hb hvb
 go_enter Tryz.func154,Tryz.ntmps154
 go_wp2_with (simp only [hov])
 go_region_law_o (refine step_copy_runI rfl _ _ 50 50 rfl (.slice (some ⟨b,(i+1) * 2,none⟩) (n+1 - (i+1)) (cap - (i+1))) (.slice (some ⟨b,i * 2,none⟩) (n+1 - i) (cap - i)) (by simp [Act.eval,Act.put]) (by simp [Act.eval,Act.put]) (hcp1 _ _ _) ?_)
 go_wp2_with (at_builtin; refine wpList_copyI _ rfl _ _ 50 49 rfl _ _ rfl rfl (hcp2 _ rfl _ _) ?_)
 go_ret
 exact ⟨rfl,rfl⟩
set_option maxHeartbeats 4000000 in
set_option maxRecDepth 100000 in
theorem insGrowM (b vb vo i n cap vcap:Nat) (c vc:Array Value) (t t2:TypeId) (w:World) (hb:w.heap[b]?=some (.cells c t (0,0))) (hvb:w.heap[vb]?=some (.cells vc t2 (0,0))) (hi:i < n) (hnc:n≤cap) (hroom:cap < n+1) (hbig:n+1≤68719476736)
  (hc:n * 2≤c.size) (cs vs D1 D2:List Value) (ROW:Array Value) (i0:TypeInfo) (z:Value) (hi0:Tryz.prog.info? 208=some i0) (hz0:i0.zero=some z) (hs0:i0.size=2) (hzs:z.cells.size=2) (hbt:i0.bytes≤1024) (hcs:cs=c.toList.take (n * 2)) (hvs:vs=(vc.toList.drop vo).take 2) (hvl:vs.length=2) (h1c:∀ v∈cs,v.oneCell'=true) (h1v:∀ v∈vs,v.oneCell'=true)
  (hR:ROW=(cs.take (i * 2)).toArray++Builtin.zeroCells z.cells (n+1 - i)++Builtin.zeroCells z.cells (grownCap w (n+1) cap 208 - (n+1))) (hD1:D1=setL ROW.toList (i * 2) vs) (hD2:D2=setL D1 ((i+1) * 2) (cs.drop (i * 2))) :
  Calls Tryz.prog 154 #[.slice (some ⟨b,0,none⟩) n cap,.int .i64 i,.slice (some ⟨vb,vo,none⟩) 1 vcap] w fun e w' =>
   e = .returned (.slice (some ⟨w.heap.size,0,none⟩) (n+1) (grownCap w (n+1) cap 208))∧w'=((((w.alloc (.cells ROW 208)).drew).setRow w.heap.size D1.toArray).drew).setRow w.heap.size D2.toArray:=by
 have hsz:szOf Tryz.prog 208=some 2:=by simp [szOf,hi0,hs0]
 have hbw:b < w.heap.size:=lt_of_heap hb
 have hvw:vb < w.heap.size:=lt_of_heap hvb
 have hcl:cs.length=n * 2:=by rw [hcs]; simp; omega
 have hzc:(n:Int)+1 - (i:Int)=((n+1 - i:Nat):Int):=by omega
 have hik:i+(n+1 - i)=n+1:=by omega
 have hold:(Builtin.firstCells i0.size i (.slice (some ⟨b,0,none⟩) i cap)).run Tryz.prog w.drew = .ok (cs.take (i * 2)).toArray w.drew:=by
  rw [hs0]
  exact run_firstCells_some w.drew 2 i ⟨b,0,none⟩ i cap (cs.take (i * 2)) (by rw [List.length_take]; omega) (fun j v hj=>by
   rw [List.getElem?_take] at hj
   split at hj
   ·rw [hcs,List.getElem?_take] at hj
    split at hj
    ·rw [add_none,World.cell?_drew,cell_of hb,Nat.zero_add,← Array.getElem?_toList]; exact hj
    ·cases hj
   ·cases hj)
 have hby:(n+1) * i0.bytes≤68719476736 * 1024:=Nat.mul_le_mul hbig hbt
 have hby2:(n+1 - i) * i0.bytes≤(n+1) * i0.bytes:=Nat.mul_le_mul_right _ (by omega)
 have hrz:∀ ty,(Builtin.append_ #[50,3] ty #[.slice (some ⟨b,0,none⟩) i cap,.int .i64 ((n:Int)+1 - (i:Int))]).run Tryz.prog w = .ok (.slice (some ⟨w.heap.size,0,none⟩) (n+1) (grownCap w (n+1) cap 208)) (w.drew.alloc (.cells ROW 208)):=fun ty=>by
  have h:=Lib.run_append_grow_zeros w 50 3 ty 208 i0 z .i64 .i64 Tryz.underlying50 Tryz.underlying3 hi0 hz0 (some ⟨b,0,none⟩) i cap (cs.take (i * 2)) hold (n+1 - i) (by omega) (by omega) (by omega) (by omega) (by omega) (by rw [hik]; exact growslice_fits hroom (by omega))
  rw [hik] at h
  rw [hzc,hR]
  exact h
 obtain ⟨G,hG⟩:∃ G,G=grownCap w (n+1) cap 208:=⟨_,rfl⟩
 rw [← hG] at hrz hR ⊢
 have hGn:n+1≤G:=by rw [hG]; exact grownCap_ge w _ _ _
 have hG63:G≤9223372036854775807:=by
  have:=grownCap_le_maxLen w (n+1) cap 208 (by unfold maxLen; omega)
  rw [← hG] at this
  unfold maxLen at this
  omega
 have hRs:ROW.size=G * 2:=by
  rw [hR]
  simp only [Array.size_append,size_zeroCells,hzs,List.size_toArray,List.length_take,hcl]
  rw [Nat.min_eq_left (by omega)]
  omega
 obtain ⟨W1,hW1⟩:∃ W1,W1=w.drew.alloc (.cells ROW 208):=⟨_,rfl⟩
 have hN:W1.heap[w.heap.size]?=some (.cells ROW 208 (0,0)):=by rw [hW1]; exact heap_alloc_new w.drew _
 have hOv:W1.heap[vb]?=some (.cells vc t2 (0,0)):=by rw [hW1,heap_alloc_old _ _ (show vb < w.drew.heap.size from hvw)]; exact hvb
 have hOb:W1.heap[b]?=some (.cells c t (0,0)):=by rw [hW1,heap_alloc_old _ _ (show b < w.drew.heap.size from hbw)]; exact hb
 have hlD1:D1.length=G * 2:=by rw [hD1,setL_length _ _ _ (by simp; omega)]; simp [hRs]
 have hN2:(W1.setRow w.heap.size D1.toArray).heap[w.heap.size]?=some (.cells D1.toArray 208 (0,0)):=setRow_heap _ _ _ _ _ _ hN
 have hOb2:(W1.setRow w.heap.size D1.toArray).heap[b]?=some (.cells c t (0,0)):=by rw [setRow_other _ _ _ _ (by omega)]; exact hOb
 have hcpA:∀ (W:World),W.heap=W1.heap→∀ ty dc,(Builtin.copy_ #[50,49] ty #[.slice (some ⟨w.heap.size,i * 2,none⟩) (n+1 - i) dc,.slice (some ⟨vb,vo,none⟩) 1 vcap]).run Tryz.prog W = .ok (goInt (1:Nat)) (W.setRow w.heap.size D1.toArray):=fun W hW ty dc=>by
  rw [hD1]
  exact run_copyK W 50 49 ty 208 w.heap.size (i * 2) (n+1 - i) dc vb vo 1 vcap 2 1 ROW 208 vs Tryz.underlying50 hsz (by simp only [Nat.min_def]; split <;> omega) (by omega) (by rw [hW]; exact hN) (by omega)
   (fun j v hj=>by
    rw [cell_of (by rw [hW]; exact hOv),← Array.getElem?_toList]
    rw [hvs,List.getElem?_take] at hj
    split at hj
    ·rw [List.getElem?_drop] at hj; exact hj
    ·cases hj) h1v
 have hdl:(cs.drop (i * 2)).length=(n - i) * 2:=by rw [List.length_drop,hcl]; omega
 have hcpB:∀ (W:World),W.heap=(W1.setRow w.heap.size D1.toArray).heap→∀ ty dc sc,(Builtin.copy_ #[50,50] ty #[.slice (some ⟨w.heap.size,(i+1) * 2,none⟩) (n+1 - (i+1)) dc,.slice (some ⟨b,i * 2,none⟩) (n - i) sc]).run Tryz.prog W = .ok (goInt (n - i:Nat)) (W.setRow w.heap.size D2.toArray):=fun W hW ty dc sc=>by
  rw [hD2]
  exact run_copyK W 50 50 ty 208 w.heap.size ((i+1) * 2) (n+1 - (i+1)) dc b (i * 2) (n - i) sc 2 (n - i) D1.toArray 208 (cs.drop (i * 2)) Tryz.underlying50 hsz (by simp only [Nat.min_def]; split <;> omega) hdl (by rw [hW]; exact hN2) (by simp only [List.size_toArray]; omega)
   (fun j v hj=>by
    rw [cell_of (by rw [hW]; exact hOb2),← Array.getElem?_toList]
    rw [List.getElem?_drop,hcs,List.getElem?_take] at hj
    split at hj
    ·exact hj
    ·cases hj) (fun v hv=>h1c v (List.mem_of_mem_drop hv))
 have hGi:¬ (G=i):=by omega
 have hGim:¬ (G=i+1):=by omega
 have hci:¬ (cap=i):=by omega
 have hz2:¬ ((i:Int)=(n:Int)):=by omega
 have hz3:(cap:Int) < (n:Int)+1:=by omega
 have mixed:Tryz.prog.follows .mixedOrders=true:=by kernel_rfl
 have hw1:IntKind.i64.wrap ((i:Int)+1)=(i:Int)+1:=by rw [IntKind.wrap_i64]; omega
 have hb1':(0:Int)≤(i:Int)+1:=by omega
 have hin:i≤n:=by omega
 have htn:((i:Int)+1).toNat=i+1:=by omega
 have hb3:(i:Int)≤(n:Int):=by omega
 have hb3':(i:Int)≤(n:Int)+1:=by omega
 have hb5:(i:Int)+1≤(n:Int)+1:=by omega
 rw [← hW1] at hrz
 subst hW1
 have hF1:(((w.alloc (.cells ROW 208)).drew.setRow w.heap.size D1.toArray).drew).heap=((w.drew.alloc (.cells ROW 208)).setRow w.heap.size D1.toArray).heap:=rfl
 have hE1:((w.alloc (.cells ROW 208)).drew).heap=(w.drew.alloc (.cells ROW 208)).heap:=rfl
 clear hG hold hR hcs hvs hD1 hD2 hN hOv hOb hN2 hOb2 hlD1 hb hvb hzc hik
 go_enter Tryz.func154,Tryz.ntmps154
 go_wp2_with (first
  | (at_builtin; refine Lib.wpList_append_run _ rfl _ _ _ _ rfl _ _ rfl rfl _ _ (hrz _) ?_)
  | (at_builtin; refine wpList_copyI _ rfl _ _ 50 49 rfl _ _ rfl rfl (hcpA _ hE1 _ _) ?_))
 go_region_law_o (refine step_copy_runI rfl _ _ 50 50 rfl (.slice (some ⟨w.heap.size,(i+1) * 2,none⟩) (n+1 - (i+1)) (G - (i+1))) (.slice (some ⟨b,i * 2,none⟩) (n - i) (cap - i)) (by simp [Act.eval,Act.put]) (by simp [Act.eval,Act.put]) (hcpB _ hF1 3 (G - (i+1)) (cap - i)) ?_)
 go_wp2
 go_ret
 exact ⟨rfl,rfl⟩
set_option maxHeartbeats 4000000 in
set_option maxRecDepth 100000 in
theorem insEndM (base:Option Addr) (n cap vb vo vcap:Nat) (w w':World) (u:Value) (h63:n≤68719476736) (hr:∀ ty,(Builtin.append_ #[50,49] ty #[.slice base n cap,.slice (some ⟨vb,vo,none⟩) 1 vcap]).run Tryz.prog w = .ok u w') :
  Calls Tryz.prog 154 #[.slice base n cap,.int .i64 n,.slice (some ⟨vb,vo,none⟩) 1 vcap] w fun e w2=>e = .returned u∧w2=w':=by
 go_enter Tryz.func154,Tryz.ntmps154
 go_wp2_with (at_builtin; refine Lib.wpList_append_run _ rfl _ _ _ _ rfl _ _ rfl rfl _ _ (hr _) ?_)
 all_goals (go_ret; exact ⟨rfl,rfl⟩)
theorem insCM:InsC Tryz.prog 154 2 208 50 49:=⟨insShiftM,insGrowM,insEndM⟩
end Go.Evl

namespace Go.Evl.Zone
open Go Go.Evl Go.Proofs Go.RowKit Go.Sort
set_option maxRecDepth 100000
theorem cmp_walk (a b:ByteArray) (w:World):Calls P0 92 #[.string a,.string b] w fun e w'=>e = .returned (.int .i64 (Lib.compareBytes a.data.toList b.data.toList))∧w'=w:=by
 have hcon:=Tryz.strings_Compare a b w
 go_enter Tryz.func92,Tryz.ntmps92
 go_wp2_with (go_at_call 158; refine hcon.mono ?_; rintro e w' ⟨rfl,rfl⟩)
 go_ret
 exact ⟨rfl,rfl⟩
theorem lt_cmp (a b:Bytes):ltOf cmpB a b=decide (cmpB a b < 0):=rfl
theorem cmp_swo:SWO (ltOf cmpB) where
 irrefl x:=by rw [lt_cmp,cmp_self]; rfl
 trans x y z h1 h2:=by
  rw [lt_cmp,decide_eq_true_eq] at *
  exact cmp_trans _ _ _ h1 h2
 ntrans x y z h1 h2:=by
  rw [lt_cmp,decide_eq_false_iff_not] at *
  intro h3
  rcases Int.lt_trichotomy (cmpB x y) 0 with k | k | k
  ·exact h1 k
  ·obtain rfl:=cmp_zero _ _ k; exact h2 h3
  ·have k2:=cmp_anti _ _ k
   exact h2 (cmp_trans _ _ _ k2 h3)
theorem merge_sortB (l:List Bytes):(l.mergeSort fun x y=>!(ltOf cmpB) y x)=sortB l:=by
 refine perm_sorted (le:=leB) (fun _ _=>leB_anti) ((List.mergeSort_perm l _).trans (sortB_perm l).symm) ?_ (sortB_sorted l)
 have h:=List.pairwise_mergeSort (le:=fun x y=>!(ltOf cmpB) y x) (fun a b c h1 h2=>?_) (fun a b=>?_) l
 ·refine h.imp fun {a b} hab=>?_
  simpa [lt_cmp,leB] using hab
 ·simp only [Bool.not_eq_true',lt_cmp,decide_eq_false_iff_not] at *
  intro k
  rcases Int.lt_trichotomy (cmpB b a) 0 with q | q | q
  ·exact h1 q
  ·obtain rfl:=cmp_zero _ _ q; exact h2 k
  ·exact h2 (cmp_trans _ _ _ k (cmp_anti _ _ q))
 ·simp only [Bool.or_eq_true,Bool.not_eq_true',lt_cmp,decide_eq_false_iff_not]
  by_cases k:cmpB b a < 0
  ·right
   have:=cmp_neg k
   omega
  ·exact .inl k
theorem merge_sortZ (l:List Int):(l.mergeSort fun x y=>decide (x≤y))=sortZ l:=by
 refine perm_sorted (le:=fun a b:Int=>a≤b) (fun _ _=>Int.le_antisymm) ((List.mergeSort_perm l _).trans (sortZ_perm l).symm) ?_ (sortZ_sorted l)
 have h:=List.pairwise_mergeSort (le:=fun x y:Int=>decide (x≤y)) (fun a b c h1 h2=>by simp at *; omega) (fun a b=>by simp; omega) l
 exact h.imp fun {a b} hab=>by simpa using hab
theorem entS:Proofs.Enters P0 173:=enters_of Tryz.func173 (by kernel_rfl) rfl
theorem entI:Proofs.Enters P0 209:=enters_of Tryz.func209 (by kernel_rfl) rfl
theorem entC:Proofs.Enters P0 92:=enters_of Tryz.func92 (by kernel_rfl) rfl
theorem sortSOK:PSound P0 InvW 173 (pSortS 92):=by
 intro args H r h g vs R hW hI hH ha hR
 unfold pSortS at h
 split at h
 ·rename_i x q
  split at h
  ·rename_i hq
   subst hq
   obtain ⟨v,u,rfl,h1,h2⟩:=cs_two ha
   obtain rfl:u = .func (.func 92) #[] #[]:=by
    cases h2 with
    | fn f cs ps hl hh =>
      have:cs=[]:=List.length_eq_zero_iff.1 hl
      subst this
      rfl
   refine sortRow_ok (α:=Bytes) (fun x=>.string ⟨x.toArray⟩) (fun _=>rfl) sortB (fun l=>(sortB_perm l).length_eq) strs strs_map #[.func (.func 92) #[] #[]] entS
    (fun p cap w=>AnyF.slices_SortFunc_none { Tryz.sortS with } p cap _ w) (fun b cap l w hH hb hl=>?_) h hW hH h1 hR
   have hc:=Any.slices_SortFunc_total Tryz.sortS (fun x:Bytes=>.string ⟨x.toArray⟩) (fun _=>rfl) cmpB cmp_swo 92 #[] b 0 cap l.toArray w entC
    (fun m os dk hs x y=>(cmp_walk ⟨x.toArray⟩ ⟨y.toArray⟩ _).mono fun _ _ ⟨he,hw⟩=>⟨he,0,#[],by rw [hw,grow_empty]; rfl⟩) hH hb (by simpa using hl)
    (fun x y h1 h2=>by
     rw [lt_cmp,decide_eq_false_iff_not] at h1 h2
     exact leB_anti h2 h1)
   rw [merge_sortB] at hc
   exact hc
  ·cases h
 ·cases h
theorem sortIOK:PSound P0 InvW 209 pSortI:=by
 intro args H r h g vs R hW hI hH ha hR
 unfold pSortI at h
 split at h
 ·rename_i x
  obtain ⟨v,rfl,h1⟩:=cs_one ha
  refine sortRow_ok (α:=Int) (fun x=>.int .i64 x) (fun _=>rfl) sortZ (fun l=>(sortZ_perm l).length_eq) ints ints_map #[] entI
   (fun p cap w=>Tryz.slices_Sort_int_none p cap w) (fun b cap l w hH hb hl=>?_) h hW hH h1 hR
  have hc:=Tryz.slices_Sort_int b 0 cap l w hH hb hl
  rw [merge_sortZ] at hc
  exact hc
 ·cases h
theorem insOK {f:FuncId} {k:Nat} {te tS tV:TypeId} (hE:Go.Proofs.Enters P0 f) (C:InsC P0 f k te tS tV) (hS:P0.underlying tS=some (.slice te)) (hV:P0.underlying tV=some (.slice te)) (hz:((zeroC P0 te).map fun z=>z.length == k && z.all cellP)=some true) (hsm:small P0 te=true) (hsz:szOf P0 te=some k):PSound P0 InvW f (pIns k):=by
 simp only [Option.map_eq_some_iff,Bool.and_eq_true,beq_iff_eq] at hz
 obtain ⟨z,h1,h2,h3⟩:=hz
 exact ins_ok hE C hS hV h1 h2 hsm hsz h3
theorem insSOK:PSound P0 InvW 142 (pIns 8):=insOK (enters_of Tryz.func142 (by kernel_rfl) rfl) insCS Tryz.underlying45 Tryz.underlying44 (by kernel_rfl) (by kernel_rfl) (by kernel_rfl)
theorem insKOK:PSound P0 InvW 203 (pIns 3):=insOK (enters_of Tryz.func203 (by kernel_rfl) rfl) insCK Tryz.underlying41 Tryz.underlying40 (by kernel_rfl) (by kernel_rfl) (by kernel_rfl)
theorem insVOK:PSound P0 InvW 192 (pIns 2):=insOK (enters_of Tryz.func192 (by kernel_rfl) rfl) insCV Tryz.underlying43 Tryz.underlying42 (by kernel_rfl) (by kernel_rfl) (by kernel_rfl)
theorem insMOK:PSound P0 InvW 154 (pIns 2):=insOK (enters_of Tryz.func154 (by kernel_rfl) rfl) insCM Tryz.underlying50 Tryz.underlying49 (by kernel_rfl) (by kernel_rfl) (by kernel_rfl)
end Go.Evl.Zone

namespace Go.Evl.Zone
open Go Go.Evl Go.Proofs Go.RowKit Go.ChangeShapes Go.WideShapes Go.ChangeAt Go.Proofs.YtjpbnkiifhfofaaGreat
set_option maxRecDepth 100000
theorem cell1 {t:TypeId} (h:((P0.info? t).bind fun i=>i.zero.map fun z=>i.size == 1 && z.cells.size == 1 && decide (i.bytes≤16))=some true):∃ i z,P0.info? t=some i∧i.zero=some z∧i.size=1∧z.cells.size=1∧i.bytes≤16:=by
 simp only [Option.bind_eq_some_iff,Option.map_eq_some_iff] at h
 obtain ⟨i,h1,z,h2,h3⟩:=h
 simp only [Bool.and_eq_true,beq_iff_eq,decide_eq_true_eq] at h3
 exact ⟨i,z,h1,h2,h3.1.1,h3.1.2,h3.2⟩
theorem iS:∃ i z,P0.info? 39=some i∧i.zero=some z∧i.size=1∧z.cells.size=1∧i.bytes≤16:=cell1 (by kernel_rfl)
theorem iN:∃ i z,P0.info? 3=some i∧i.zero=some z∧i.size=1∧z.cells.size=1∧i.bytes≤16:=cell1 (by kernel_rfl)
theorem growI:PSound P0 InvW 213 (pGrow 1):=let ⟨_,_,a,b,c,d,e⟩:=iS; growOK entH Tryz.grow213 rfl a b c d e
theorem growN:PSound P0 InvW 232 (pGrow 1):=let ⟨_,_,a,b,c,d,e⟩:=iN; growOK entG Tryz.grow232 rfl a b c d e
theorem prim_ok:PrimOK (env P0) InvW where
 ok:=by
  intro c f p hp
  change prim c f=some p at hp
  unfold prim at hp
  split at hp
  ·cases hp; exact truncOK
  ·cases hp; exact compareOK
  ·rcases cond_some hp with ⟨_,rfl⟩ | ⟨_,rfl⟩
   ·exact cFOK uZ (by kernel_rfl)
   ·exact cOK uZ (by kernel_rfl)
  ·rcases cond_some hp with ⟨_,rfl⟩ | ⟨_,rfl⟩
   ·exact cFOK uV (by kernel_rfl)
   ·exact cOK uV (by kernel_rfl)
  ·rcases cond_some hp with ⟨_,rfl⟩ | ⟨_,rfl⟩
   ·exact cFOK uS (by kernel_rfl)
   ·exact cOK uS (by kernel_rfl)
  ·rcases cond_some hp with ⟨_,rfl⟩ | ⟨_,rfl⟩
   ·exact cFOK uI (by kernel_rfl)
   ·exact cOK uI (by kernel_rfl)
  ·cases hp; exact cOK uK (by kernel_rfl)
  ·cases hp; exact cOK uM (by kernel_rfl)
  ·rcases cond_some hp with ⟨_,rfl⟩ | ⟨_,rfl⟩
   ·exact cFOK uN (by kernel_rfl)
   ·exact cOK uN (by kernel_rfl)
  ·cases hp; exact insSOK
  ·cases hp; exact insKOK
  ·cases hp; exact insVOK
  ·cases hp; exact insMOK
  ·cases hp; exact sortSOK
  ·cases hp; exact sortIOK
  ·cases hp; exact growI
  ·cases hp; exact growN
  ·cases hp
theorem zone_calls {W:World} {f:FuncId} {vs:List Value} {aa:List PV} {v:Value} (ha:Cs (g0 W) vs aa) (h:ans (env P0) f aa=some (.val v)) :
  Calls P0 f vs.toArray W fun e W'=>e = .returned v∧Below W.heap.size W W' :=
 door_calls (E:=env P0) invW_ok tab_ok prim_fr prim_dd prim_ok trivial ha h
theorem own:ownKnob P0.godebug=none:=by kernel_rfl
theorem laidOut:laidOutB P0=true:=by kernel_rfl
def LawOK (k:FuncId) (ts:List TypeId):Prop:=∀ aa,FitAll P0 12 ts aa→ans (env P0) k aa=some (.val (.bool true))
noncomputable def theWorld (os:Os):World:=World.holding P0 os ⟨#[],#[],[]⟩
theorem lift {H:Type} {enc:TypeId × Value→H} {os:Os} (started:os.Started) {k:FuncId} {fn:Func} {s:ChangeSpec} {F:Stop.Interp} (hfn:P0.funcs[k]?=some fn) (noInit:P0.inits.idxOf? k=none) (hvars:s.vars=[])
  (hspec:∀ ds:List (DataW H),ds.length=fn.params.toList.length→s.fn H ds={ results:=[.lit (.bool true)],args:=ds }) (hres:fn.resultTypes = #[4])
  (hrd:(fn.params.toList.all fun t=>rdB P0 12 t && P0.readableRec t && decide (t < P0.types.size))=true) (hlaw:LawOK k fn.params.toList) (wargs:Array Value)
  (hok:Input.okWideB P0 ((theWorld os).forCall (fun _ _=>0) ⟨#[],wargs,[]⟩) k ⟨#[],wargs,[]⟩=true)
  (hvr:((theWorld os).forCall (fun _ _=>0) ⟨#[],wargs,[]⟩).variablesRefB P0=true)
  (hhp:((((theWorld os).forCall (fun _ _=>0) ⟨#[],wargs,[]⟩).heap.toList.drop P0.globals.size).take ((begin P0 (fun _ _=>0) default).world.heap.size - P0.globals.size)=(begin P0 (fun _ _=>0) default).world.heap.toList.drop P0.globals.size))
  (hrow:(OpenSpec.ofChange s).preRow enc P0 fn [] false [] ((theWorld os).forCall (fun _ _=>0) ⟨#[],wargs,[]⟩).memory wargs) :
  ReturnsInHanded {} Tryz.checked os k .any ((OpenSpec.ofChange s).preRow enc P0 fn [] false []) (((OpenSpec.ofChange s).at F).post enc P0 fn false true false false):=by
 refine returnsInHanded_of_row (C:=Tryz.checked) (s:=OpenSpec.ofChange s) own started noInit hfn (witness_row_atRef (enc:=enc) (C:=Tryz.checked) false (theWorld os) wargs rfl hvr hhp hok hrow) ?_
 intro W base args ds gs before hval hW _ _ _ hL hS _
 have hrd':∀ t∈fn.params.toList,rdB P0 12 t=true∧P0.readableRec t=true∧t < P0.types.size:=fun t ht=>by
  have:=List.all_eq_true.1 hrd t ht
  simp only [Bool.and_eq_true,decide_eq_true_eq] at this
  exact ⟨this.1.1,this.1.2,this.2⟩
 have hW0:DataW.Whole enc P0 fn.params.toList s.vars false W args.toList ds gs before:=hW
 have hW1:=hW0
 obtain ⟨p,q,hA,hV,_,_,_⟩:=hW1
 rw [hvars] at hV
 obtain ⟨rfl,_⟩:=trodVars_none hV
 obtain ⟨aa,hc,hfit⟩:=args_read (fun t ht=>(hrd' t ht).1) (fun j t v a b=>hval j t v (by simpa using a) (by simpa using b)) hA
 have hlen:∀ {ts:List TypeId} {vs:List Value} {ds:List (DataW H)} {ps:List MemPlace},DataW.TrodAll enc P0 W 0 (fun _=>true) true ts vs ds ps→ds.length=ts.length:=by
  intro ts
  induction ts with
  | nil=>intro vs ds ps h; match vs,ds,h with | [],[],_=>rfl
  | cons t ts ih=>intro vs ds ps h; match vs,ds,h with | _::_,_::_,⟨_,_,_,h2,_⟩=>simp [ih h2]
 have hcall:=zone_calls (f:=k) (vs:=args.toList) hc (hlaw aa hfit)
 rw [Array.toArray_toList] at hcall
 refine hcall.mono ?_
 rintro e W' ⟨rfl,hb⟩
 refine ⟨_,rfl,?_⟩
 exact law_post (s:=s) (tb:=4) laidOut hW0 hvars (by rw [List.append_nil]; exact hspec ds (hlen hA)) hres Tryz.underlying4 (fun t ht=>⟨(hrd' t ht).2.1,(hrd' t ht).2.2⟩) hb
end Go.Evl.Zone

namespace Go.Evl.Zone
open Go Go.Evl
set_option maxRecDepth 1000000
noncomputable def runF (f:FuncId) (cf:CF) (args:List PV):Option (Option PV):=(ev (env Proofs.Tryz.prog) 3000 f cf.body ⟨start args,Heap.empty,[]⟩).map fun q=>((resV q.2 cf.res).bind (expV q.2.h)).map (·.1)
theorem ans_run {f:FuncId} {cf:CF} {args:List PV} {v:PV} (hc:tab f=some cf) (h:runF f cf args=some (some v)):ans (env Proofs.Tryz.prog) f args=some v:=by
 unfold runF at h
 simp only [Option.map_eq_some_iff] at h
 obtain ⟨⟨e,st⟩,h1,⟨v',is⟩,h2,h3⟩:=h
 simp only at h3
 subst h3
 exact ans_of ⟨cf,hc,rfl,3000,e,st,is,h1,h2⟩
end Go.Evl.Zone

namespace Go.Evl.Zone
open Go Go.Evl Go.Evl.Zone Go.Proofs Go.RowKit Go.ChangeShapes Go.WideShapes Go.ChangeAt
set_option maxRecDepth 100000
theorem typed3:Typed3 P0 where
 t3:=Tryz.underlying3
 t5:=Tryz.underlying5
 t53:=Tryz.underlying34
 t41:=Tryz.underlying176
 t33:=Tryz.underlying67
 t59:=⟨_,Tryz.underlying127,by kernel_rfl,by kernel_rfl⟩
 h59:=by kernel_rfl
 g59:=by kernel_rfl
 t51:=⟨_,Tryz.underlying178,by kernel_rfl,by kernel_rfl⟩
 h51:=by kernel_rfl
 g51:=by kernel_rfl
theorem tI:TI P0 where
 toTyped3:=typed3
 t4:=Tryz.underlying4
 t9:=Tryz.underlying9
 place:=⟨⟨_,Tryz.underlying28,by kernel_rfl,by kernel_rfl⟩,by kernel_rfl,by kernel_rfl⟩
 tid:=Tryz.underlying39
 at_:=⟨⟨_,Tryz.underlying206,by kernel_rfl,by kernel_rfl⟩,by kernel_rfl,by kernel_rfl⟩
 rat:=⟨⟨_,Tryz.underlying190,by kernel_rfl,by kernel_rfl⟩,by kernel_rfl,by kernel_rfl⟩
 ver:=⟨⟨_,Tryz.underlying73,by kernel_rfl,by kernel_rfl⟩,by kernel_rfl,by kernel_rfl⟩
 verS:=by kernel_rfl
 item:=⟨⟨_,Tryz.underlying75,by kernel_rfl,by kernel_rfl⟩,by kernel_rfl,by kernel_rfl⟩
 rver:=⟨⟨_,Tryz.underlying77,by kernel_rfl,by kernel_rfl⟩,by kernel_rfl,by kernel_rfl⟩
 rverS:=by kernel_rfl
 placeS:=by kernel_rfl
 ritem:=⟨⟨_,Tryz.underlying79,by kernel_rfl,by kernel_rfl⟩,by kernel_rfl,by kernel_rfl⟩
theorem map_of_all {α β:Type} {f:α→β} {Q:α→Prop}:∀ {xs:List β},(∀ x∈xs,∃ a,x=f a∧Q a)→∃ l:List α,xs=l.map f∧∀ a∈l,Q a
 | [],_=>⟨[],rfl,by simp⟩
 | x::xs,h=>by
   obtain ⟨a,rfl,ha⟩:=h x (by simp)
   obtain ⟨l,rfl,hl⟩:=map_of_all (xs:=xs) fun y hy=>h y (by simp [hy])
   exact ⟨a::l,rfl,fun b hb=>by rcases List.mem_cons.1 hb with rfl | hb; exact ha; exact hl b hb⟩
theorem fit_i {n:Nat} {ps:List PV} (h:Fit P0 (n+1) 3 ps):∃ m,ps=[iv m]∧-9223372036854775808≤m∧m≤9223372036854775807:=by
 unfold Fit at h
 rw [Tryz.underlying3] at h
 obtain ⟨m,rfl,h2,h3⟩:=h
 exact ⟨m,rfl,h2,h3⟩
theorem fit_iv {n:Nat} {p:PV} (h:FitV P0 (n+1) 3 p):∃ m,p=iv m:=by
 unfold FitV at h
 rw [Tryz.underlying3] at h
 obtain ⟨m,e,_⟩:=fit_i (show Fit P0 (n+1) 3 [p] from h)
 exact ⟨m,by simpa using e⟩
theorem fit_s {n:Nat} {ps:List PV} (h:Fit P0 (n+1) 9 ps):∃ b:Bytes,ps=[sv b]∧b.length≤9223372036854775807:=by
 unfold Fit at h
 rw [Tryz.underlying9] at h
 obtain ⟨s,rfl,h2⟩:=h
 refine ⟨s.data.toList,by simp [sv],?_⟩
 have:s.data.toList.length=s.size:=by rw [Array.length_toList]; rfl
 rw [this]
 exact Nat.le_trans h2 (by decide)
theorem fit_sl {n:Nat} {t e:TypeId} (hu:P0.underlying t=some (.slice e)) {α:Type} {f:α→List PV} {Q:α→Prop} (he:∀ ps,Fit P0 n e ps→∃ a,ps=f a∧Q a) {ps:List PV} (h:Fit P0 (n+1) t ps) :
  ∃ l:List α,ps=[.im (l.map f) false]∧∀ a∈l,Q a:=by
 unfold Fit at h
 rw [hu] at h
 obtain ⟨xs,rfl,_,h3⟩:=h
 obtain ⟨l,rfl,hl⟩:=map_of_all (f:=f) (Q:=Q) fun x hx=>he x (h3 x hx)
 exact ⟨l,rfl,hl⟩
theorem fit_step {n:Nat} {ps:List PV} (h:Fit P0 (n+2) 127 ps):∃ q:RS,ps=q.cells:=by
 unfold Fit at h
 rw [Tryz.underlying127] at h
 obtain ⟨x1,y1,rfl,h1,x2,y2,rfl,h2,x3,y3,rfl,h3,x4,y4,rfl,h4,rfl⟩:FitL (Fit P0 (n+1)) [3,3,3,3] ps:=h
 obtain ⟨a,rfl,_⟩:=fit_i h1
 obtain ⟨b,rfl,_⟩:=fit_i h2
 obtain ⟨c,rfl,_⟩:=fit_i h3
 obtain ⟨d,rfl,_⟩:=fit_i h4
 exact ⟨⟨a,b,c,d⟩,rfl⟩
theorem fit_steps {n:Nat} {ps:List PV} (h:Fit P0 (n+3) 29 ps):∃ l:List RS,ps=[.im (rsV l) false]:=by
 obtain ⟨l,rfl,_⟩:=fit_sl (f:=RS.cells) (Q:=fun _=>True) Tryz.underlying29 (fun ps h=>let ⟨q,e⟩:=fit_step h; ⟨q,e,trivial⟩) h
 exact ⟨l,rfl⟩
theorem fit_zone {n:Nat} {p:PV} (h:FitV P0 (n+3) 29 p):∃ l:List RS,p = .im (rsV l) false:=by
 unfold FitV at h
 rw [Tryz.underlying29] at h
 obtain ⟨l,e⟩:=fit_steps (show Fit P0 (n+3) 29 [p] from h)
 exact ⟨l,by simpa using e⟩
theorem fit_place {n:Nat} {ps:List PV} (h:Fit P0 (n+2) 28 ps):∃ (a b:Int),ps=[iv a,iv b]:=by
 unfold Fit at h
 rw [Tryz.underlying28] at h
 obtain ⟨x1,y1,rfl,h1,x2,y2,rfl,h2,rfl⟩:FitL (Fit P0 (n+1)) [3,3] ps:=h
 obtain ⟨b,rfl,_⟩:=fit_i h1
 obtain ⟨c,rfl,_⟩:=fit_i h2
 exact ⟨b,c,rfl⟩
theorem fit_opL {n:Nat} {ps:List PV} (h:Fit P0 (n+4) 31 ps):∃ o:NOp,ps=opC o:=by
 unfold Fit at h
 rw [Tryz.underlying31] at h
 obtain ⟨x1,y1,rfl,h1,x2,y2,rfl,h2,x3,y3,rfl,h3,x4,y4,rfl,h4,x5,y5,rfl,h5,x6,y6,rfl,h6,x7,y7,rfl,h7,rfl⟩ :
  FitL (Fit P0 (n+3)) [3,3,3,3,28,9,29] ps:=h
 obtain ⟨a,rfl,_⟩:=fit_i h1
 obtain ⟨b,rfl,_⟩:=fit_i h2
 obtain ⟨c,rfl,_⟩:=fit_i h3
 obtain ⟨d,rfl,_⟩:=fit_i h4
 obtain ⟨x,y,rfl⟩:=fit_place h5
 obtain ⟨s,rfl,_⟩:=fit_s h6
 obtain ⟨l,rfl⟩:=fit_steps h7
 exact ⟨⟨a,b,c,d,x,y,s,l⟩,rfl⟩
theorem fit_op {n:Nat} {p:PV} (h:FitV P0 (n+4) 31 p):∃ o:NOp,p = .agg (opC o):=by
 unfold FitV at h
 rw [Tryz.underlying31] at h
 obtain ⟨ps,rfl,h⟩:=h
 obtain ⟨o,rfl⟩:=fit_opL h
 exact ⟨o,rfl⟩
end Go.Evl.Zone

namespace Go.Evl.Zone
open Go Go.Evl
set_option maxRecDepth 1000000
theorem b_told:runF 10 c10 []=some (some (.val (.bool true))):=by kernel_rfl
theorem b_pR:runF 56 c56 []=some (some (.agg (nsP rootN))):=by kernel_rfl
theorem b_rR:runF 57 c57 []=some (some (.agg (nsR rootN))):=by kernel_rfl
theorem nCB:NCB Proofs.Tryz.prog where
 told:=ans_run rfl b_told
 pR:=ans_run rfl b_pR
 rR:=ans_run rfl b_rR
end Go.Evl.Zone

namespace Go.Evl.Zone
open Go Go.Evl Go.Evl.Zone Go.Proofs Go.RowKit Go.ChangeShapes Go.WideShapes Go.ChangeAt
set_option maxRecDepth 100000
theorem tB:TB P0 where
 toTI:=tI
 tu:=Tryz.underlying264
theorem fit_ops {n:Nat} {p:PV} (h:FitV P0 (n+5) 22 p):∃ l:List NOp,p = .im (opsV l) false:=by
 unfold FitV at h
 rw [Tryz.underlying22] at h
 obtain ⟨l,e,_⟩:=fit_sl (f:=opC) (Q:=fun _=>True) Tryz.underlying22 (fun ps h=>let ⟨q,e⟩:=fit_opL h; ⟨q,e,trivial⟩) (show Fit P0 (n+5) 22 [p] from h)
 exact ⟨l,by simpa [opsV] using e⟩
end Go.Evl.Zone
