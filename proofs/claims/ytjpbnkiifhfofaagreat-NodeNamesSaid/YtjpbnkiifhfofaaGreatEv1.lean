/- The evaluator's texts Sound24 to Sound29, joined. -/
import Derived.Test.YtjpbnkiifhfofaaGreatEv0
import Derived.LoopN
set_option maxHeartbeats 1000000
set_option linter.all false
set_option linter.deprecated false
set_option linter.unusedVariables false
set_option linter.unusedSimpArgs false
set_option linter.unnecessarySimpa false
namespace Go.Evl
open Go
def tstep (E:Env) (n:Nat) (f:FuncId) (L:List CI) (s0:Nat) (i:Nat) (s:RS):Option (RS × Unit) :=
 match L[i]? with
 | none=>none
 | some c =>
   if wants s.1 c.guard then
    match evOp E n f s.1 s.2 (slotOf L s0 i) c.op with
    | some r=>some ((s.1.putO c.dst r.v,r.h),())
    | none=>none
   else some ((s.1.putO c.dst uv,s.2),())
theorem rstep_tstep {E:Env} {n:Nat} {f:FuncId} {L:List CI} {s0 i:Nat} {s s':RS} {a:Option (List Nat × Option (List Nat))} (h:rstep E n f L s0 i s=some (s',a)):tstep E n f L s0 i s=some (s',()):=by
 unfold rstep at h
 unfold tstep
 cases hc:L[i]? with
 | none=>rw [hc] at h; simp at h
 | some c =>
   rw [hc] at h
   simp only at h ⊢
   by_cases hw:wants s.1 c.guard=true
   ·rw [if_pos hw] at h ⊢
    cases hr:evOp E n f s.1 s.2 (slotOf L s0 i) c.op with
    | none=>rw [hr] at h; simp at h
    | some r =>
      rw [hr] at h
      simp only at h ⊢
      split at h
      ·simp at h; simp [h.1]
      ·simp at h
   ·rw [if_neg hw] at h ⊢
    simp at h; simp [h.1]
theorem run_tstep {E:Env} {n:Nat} {f:FuncId} {L:List CI} {s0:Nat} {acc:Nat→Option (List Nat × Option (List Nat))} {l:List Nat} {s s':RS} (h:Run (rstep E n f L s0) acc l s s'):Run (tstep E n f L s0) (fun _=>()) l s s':=by
 induction h with
 | nil s=>exact .nil s
 | cons h _ ih=>exact .cons (rstep_tstep h) ih
theorem evOps_trun {E:Env} {N:Nat} {f:FuncId} {L:List CI} {s0:Nat}:∀ (l:List CI) (n:Nat),n≤N→∀ (i:Nat) (st:St) (log:Log) (st':St) (log':Log),L.drop i=l→evOps E n f l i (slotOf L s0 i) st log=some (st',log') →
  Run (tstep E N f L s0) (fun _=>()) (List.range' i l.length) (st.σ,st.h) (st'.σ,st'.h)
 | [],n,hN,i,st,log,st',log',hL,h=>by
   simp [evOps] at h; obtain ⟨rfl,rfl⟩:=h
   exact .nil _
 | c::l,0,hN,i,st,log,st',log',hL,h=>by simp [evOps] at h
 | c::l,n+1,hN,i,st,log,st',log',hL,h=>by
   have hc:L[i]?=some c:=by
    have:(L.drop i)[0]?=some c:=by rw [hL]; rfl
    simpa using this
   have hL':L.drop (i+1)=l:=by rw [← List.drop_drop,hL]; rfl
   rw [evOps] at h
   try simp only at h
   rw [← slotOf_succ hc] at h
   rw [List.length_cons,List.range'_succ]
   split at h
   ·rename_i hw
    split at h
    ·simp at h
    ·rename_i r hr
     have h2:=evOps_trun (N:=N) l n (by omega) (i+1) _ _ st' log' hL' h
     refine .cons (s1:=(st.σ.putO c.dst r.v,r.h)) ?_ h2
     unfold tstep
     rw [hc]
     simp only [hw,if_true,evOp_more (show n≤N by omega) hr]
   ·rename_i hw
    have h2:=evOps_trun (N:=N) l n (by omega) (i+1) _ _ st' log' hL' h
    refine .cons (s1:=(st.σ.putO c.dst uv,st.h)) ?_ h2
    unfold tstep
    rw [hc]
    simp only [hw]
    rfl
theorem cIs_get {P:Program} {nt:Nat} {ops:Array Oper}:∀ {os:List Oper} {L:List CI},cIs P nt ops os=some L→L.length=os.length∧∀ (i:Nat) (o:Oper),os[i]?=some o →
  ∃ c,L[i]?=some c∧c.dst=o.dst∧c.op=(cOp P o).getD .bad∧cGuard ops o.guard=some c.guard∧(∀ d,o.dst=some d→d < nt)∧∀ d b,c.guard=some (d,b)→d < nt
 | [],L,h=>by simp [cIs] at h; subst h; simp
 | o::os,L,h=>by
   simp only [cIs] at h
   split at h
   ·rename_i c0 g0 rest0 c g rest hc hg hrest
    rw [Option.ite_none_right_eq_some] at h
    obtain ⟨hcond,h⟩:=h
    ·rw [Bool.and_eq_true] at hcond
     simp only [Option.some.injEq] at h hc
     subst h
     obtain ⟨l1,l2⟩:=cIs_get hrest
     refine ⟨by simp [l1],fun i o' ho=>?_⟩
     cases i with
     | zero =>
       simp at ho; subst ho
       refine ⟨⟨o.dst,c,g⟩,rfl,rfl,hc.symm,hg,fun d hd=>?_,fun d b hd=>?_⟩
       ·have:=hcond.1; rw [hd] at this; simpa using this
       ·have:=hcond.2; simp only at hd; rw [hd] at this; simpa using this
     | succ i=>exact l2 i o' (by simpa using ho)
   ·simp at h
theorem VR.bool {g:G} {v:Value} {p:PV} (h:VR g v p) {b:Bool}:v = .bool b↔p = .val (.bool b):=by
 cases h <;> simp
theorem wants_sound {g:G} {a:Act} {σ:Tm} {ops:Array Oper} {o:Oper} {gd:Option (Nat × Bool)} {nt:Nat} (hT:TR g a.tmps σ) (hg:cGuard ops o.guard=some gd) (hlt:∀ d b,gd=some (d,b)→d < nt) (hs:nt≤a.tmps.size) :
  Region.wanted o (yielded ops a.tmps)=wants σ gd:=by
 unfold Region.wanted
 cases hog:o.guard with
 | none=>rw [hog] at hg; simp [cGuard] at hg; subst hg; rfl
 | some p =>
   obtain ⟨j,w⟩:=p
   rw [hog] at hg
   simp only [cGuard] at hg
   split at hg
   ·rename_i d hd
    simp at hg; subst hg
    have hdl:d < a.tmps.size:=Nat.lt_of_lt_of_le (hlt d w rfl) hs
    have hv:=hT d
    simp only [Array.getD_eq_getD_getElem?,Array.getElem?_eq_getElem hdl,Option.getD_some] at hv
    simp only [yielded,hd,Option.bind_some,Array.getElem?_eq_getElem hdl,wants]
    generalize a.tmps[d]=v at hv
    cases hp:σ d with
    | val x =>
      rw [hp] at hv
      rw [hv.inv_val]
      cases x <;> simp
    | _ =>
      rw [hp] at hv
      simp only
      cases hv <;> simp
   ·simp at hg
def G.room (g:G) (m:Nat):G:={ g with H:=g.H.grow m }
theorem room_at {g:G} (hW:WR g) (m:Nat):(g.H.grow m).at_=g.H.at_:=by
 funext i
 show (if i < g.H.n then g.H.at_ i else .dead)=_
 split
 ·rfl
 ·exact (hW.dead i (by omega)).symm
theorem ext_same_at {g:G} {H':Heap} (hat:H'.at_=g.H.at_) (hn:g.H.n≤H'.n):Ext g { g with H:=H' } where
 out:=⟨rfl,rfl,rfl⟩
 n:=hn
 sz:=Nat.le_refl _
 zin _ h:=h
 znew _ h:=.inl h
 keep _ _ _:=rfl
 size _ _ h:=h
 own b h:=by
  obtain ⟨r,h1,h2⟩:=h
  refine .inl ⟨r,?_,h2⟩
  rw [← hat]; exact h1
 box r b h h':=⟨by show isBox (H'.at_ r); rw [hat]; exact h,h'⟩
 row r n h:=⟨n,by show rowLen (H'.at_ r)=_; rw [hat]; exact h,Nat.le_refl _,fun _=>⟨rfl,by show rowK (H'.at_ r)=_; rw [hat]⟩⟩
theorem wr_same_at {g:G} (hW:WR g) {H':Heap} (hat:H'.at_=g.H.at_) (hn:g.H.n≤H'.n):WR { g with H:=H' }:=by
 have e:=ext_same_at (g:=g) hat hn
 constructor
 ·intro r h; show H'.at_ r=_; rw [hat]; exact hW.dead r (Nat.le_trans hn h)
 ·exact hW.lt
 ·intro r cs h
  have h:H'.at_ r=_:=h
  rw [hat] at h
  obtain ⟨b,c,t,h1,h2,h3,h4⟩:=hW.box r cs h
  exact ⟨b,c,t,h1,h2,h3,fun j p hp=>let ⟨cv,q,s⟩:=h4 j p hp; ⟨cv,q,s.mono hW e⟩⟩
 ·intro r k xs own h
  have h:H'.at_ r=_:=h
  rw [hat] at h
  obtain ⟨a1,a2,b,c,t,fr,x,y,z,u,v,s⟩:=hW.row r k xs own h
  exact ⟨a1,a2,b,c,t,fr,x,y,z,u,v,fun i x j p d e'=>let ⟨cv,q,q',s⟩:=s i x j p d e'; ⟨cv,q,q',s.mono hW e⟩⟩
 ·intro r r' b h h' hi hi'
  have h:isOwn (H'.at_ r):=h
  have h':isOwn (H'.at_ r'):=h'
  rw [hat] at h h'
  exact hW.inj r r' b h h' hi hi'
 ·intro r b h hi
  have h:isOwn (H'.at_ r):=h
  rw [hat] at h
  exact hW.z r b h hi
 ·exact hW.zlt
theorem ext_room {g:G} (hW:WR g) (m:Nat):Ext g (g.room m):=ext_same_at (room_at hW m) (Nat.le_add_right _ _)
theorem wr_room {g:G} (hW:WR g) (m:Nat):WR (g.room m):=wr_same_at hW (room_at hW m) (Nat.le_add_right _ _)
structure InvOK (Inv:G→Prop):Prop where
 mono:∀ g g',WR g→Ext g g'→Inv g→Inv g'
 same:∀ g g',g'.w=g.w→(∀ b,g.Z b→g'.Z b)→Inv g→Inv g'
def OpOK (E:Env) (Inv:G→Prop) (N:Nat) (f:FuncId):Prop:=∀ (g:G) (a:Act) (σ:Tm) (o:Oper) (co:COp) (slot:Nat) (r:ORes) (next:Act→World→Prop) (Q:Exit→Act→World→Prop),
 WR g→Inv g→TR g a.tmps σ→cOp E.P o=some co→(allocs co=true→g.H.at_ slot = .dead∧slot < g.H.n)→evOp E N f σ g.H slot co=some r →
  (∀ g' v,g'.H=r.h→WR g'→Ext g g'→VR g' v r.v→next (a.put o.dst v) g'.w)→o.wp E.P a g.w next Q
theorem put_size (a:Act) (d:Option Tmp) (v:Value):(a.put d v).tmps.size=a.tmps.size:=by cases d <;> simp [Act.put]
theorem put_defers (a:Act) (d:Option Tmp) (v:Value):(a.put d v).defers=a.defers:=by cases d <;> simp [Act.put]
theorem slotOf_lt {L:List CI} {s0 i j:Nat} {c:CI} (hij:i < j) (h:L[i]?=some c) (ha:allocs c.op=true):slotOf L s0 i < slotOf L s0 j:=by
 have h1:slotOf L s0 (i+1)=slotOf L s0 i+1:=by rw [slotOf_succ h,if_pos ha]
 have h2:slotOf L s0 (i+1)≤slotOf L s0 j:=by
  unfold slotOf
  have:L.take j=L.take (i+1)++(L.drop (i+1)).take (j - (i+1)):=by
   rw [show j=(i+1)+(j - (i+1)) by omega,List.take_add]
   congr 2; omega
  rw [this,nAlloc_append]; omega
 omega
theorem run_wp {E:Env} {Inv:G→Prop} (hI:InvOK Inv) {N:Nat} {f:FuncId} (hE:PrimFr E) (hD:PrimDd E) (hop:OpOK E Inv N f) {ops:Array Oper} {L:List CI} {nt:Nat} (hL:cIs E.P nt ops ops.toList=some L) {s0:Nat} {l:List Nat} {s s':RS} (h:Run (tstep E N f L s0) (fun _=>()) l s s') :
  l.Nodup→(∀ x∈l,x < ops.size)→∀ (g:G) (a:Act),WR g→Inv g→g.H=s.2→TR g a.tmps s.1→nt≤a.tmps.size →
  (∀ x∈l,∀ c,L[x]?=some c→allocs c.op=true→s.2.at_ (slotOf L s0 x) = .dead∧slotOf L s0 x < s.2.n)→∀ Q:Exit→Act→World→Prop,
  (∀ g' a',Ext g g'→WR g'→g'.H=s'.2→TR g' a'.tmps s'.1→nt≤a'.tmps.size→a'.defers=a.defers→Q .normal a' g'.w)→wpOps E.P ops Q l a g.w:=by
 induction h with
 | nil s=>exact fun _ _ g a hW _ hH hT hnt _ Q hQ=>hQ g a (Ext.refl g) hW hH hT hnt rfl
 | @cons x l s s1 s' hst hr ih =>
   intro hnd hlt g a hW hinv hH hT hnt hsl Q hQ
   have hx:x < ops.size:=hlt x (by simp)
   have hox:ops[x]?=some ops[x]:=Array.getElem?_eq_getElem hx
   obtain ⟨c,c1,c2,c3,c4,c5,c6⟩:=(cIs_get hL).2 x ops[x] (by simpa using hox)
   rw [List.nodup_cons] at hnd
   simp only [wpOps,hox]
   rw [wants_sound hT c4 c6 hnt]
   unfold tstep at hst
   rw [c1] at hst
   simp only at hst
   by_cases hw:wants s.1 c.guard=true
   ·rw [if_pos hw] at hst ⊢
    split at hst
    ·rename_i r hev
     simp only [Option.some.injEq,Prod.mk.injEq,and_true] at hst
     subst hst
     refine .inl ?_
     cases hco:cOp E.P ops[x] with
     | none =>
       rw [hco] at c3
       simp only [Option.getD_none] at c3
       rw [c3] at hev
       cases N <;> simp [evOp,pop] at hev
     | some co =>
       rw [hco] at c3
       simp only [Option.getD_some] at c3
       rw [c3] at hev
       refine hop g a s.1 ops[x] co (slotOf L s0 x) r _ Q hW hinv hT hco (fun q=>hH▸hsl x (by simp) c c1 (by rw [c3]; exact q)) (hH▸hev) ?_
       intro g' v hH' hW' he hv
       refine ih hnd.2 (fun y hy=>hlt y (by simp [hy])) g' _ hW' (hI.mono _ _ hW he hinv) hH' ?_ (by rw [put_size]; exact hnt) ?_ Q ?_
       ·rw [c2]
        exact (hT.mono hW he).putO (fun d hd=>Nat.lt_of_lt_of_le (c5 d hd) hnt) hv
       ·intro y hy cy hcy hay
        obtain ⟨d1,d2⟩:=hsl y (by simp [hy]) cy hcy hay
        refine ⟨(ev_dead hE hD N).2.1 _ _ _ _ _ _ hev _ d2 d1 fun q=>?_,Nat.lt_of_lt_of_le d2 ((ev_frame hE N).2.1 _ _ _ _ _ _ hev).1⟩
        have hne:x≠y:=fun q=>hnd.1 (q▸hy)
        rcases Nat.lt_or_gt_of_ne hne with h1 | h1
        ·have:=slotOf_lt (s0:=s0) h1 c1 (by rw [c3]; exact q); omega
        ·have:=slotOf_lt (s0:=s0) h1 hcy hay; omega
       ·intro g2 a2 e2 w2 h2 t2 n2 d2
        exact hQ g2 a2 (he.trans e2) w2 h2 t2 n2 (by rw [d2,put_defers])
    ·simp at hst
   ·have hw':wants s.1 c.guard=false:=by simpa using hw
    rw [hw'] at hst ⊢
    simp only [Bool.false_eq_true,if_false,Option.some.injEq,Prod.mk.injEq,and_true] at hst ⊢
    subst hst
    refine ih hnd.2 (fun y hy=>hlt y (by simp [hy])) g _ hW hinv hH ?_ (by rw [put_size]; exact hnt) ?_ Q ?_
    ·rw [c2]
     exact hT.putO (fun d hd=>Nat.lt_of_lt_of_le (c5 d hd) hnt) (.val _)
    ·intro y hy cy hcy hay
     exact hsl y (by simp [hy]) cy hcy hay
    ·intro g2 a2 e2 w2 h2 t2 n2 d2
     exact hQ g2 a2 e2 w2 h2 t2 n2 (by rw [d2,put_defers])
theorem pop_n {P:Program} {σ:Tm} {H:Heap} {slot m:Nat} {co:COp} {v:PV} {w:List Nat} {rd:Option (List Nat)} (hq:quietC co=true∨readC co=true∨bslC co=true) (hw:w=[]) (hp:pop P σ H slot co=some ⟨v,H,w,rd⟩) :
  pop P σ ⟨m,H.at_⟩ slot co=some ⟨v,⟨m,H.at_⟩,w,rd⟩:=by
 have el:∀ k x,elems ⟨m,H.at_⟩ k x=elems H k x:=fun k x=>by cases x <;> rfl
 have ll:∀ n agg x,loadP ⟨m,H.at_⟩ n agg x=loadP H n agg x:=fun n agg x=>rfl
 have sl:∀ s x lo hi mx,sliceP ⟨m,H.at_⟩ s x lo hi mx=sliceP H s x lo hi mx:=fun s x lo hi mx=>rfl
 by_cases hb:bslC co=true
 ·cases co <;> simp [bslC] at hb
  simp only [pop] at hp ⊢
  split at hp
  ·rename_i cs is he
   simp only [Option.some.injEq,ORes.mk.injEq] at hp
   obtain ⟨rfl,_,rfl,rfl⟩:=hp
   simp only [Option.bind_eq_some_iff] at he
   obtain ⟨c0,hf,he⟩:=he
   subst hw
   have he':=expCs_local (H':=⟨m,H.at_⟩) he (fun _ _=>rfl)
   simp only [hf,Option.bind_some,he']
   rfl
  ·simp at hp
 replace hq:quietC co=true∨readC co=true:=hq.elim .inl fun h=>h.elim .inr fun q=>(hb q).elim
 cases co <;> simp [quietC,readC] at hq <;> simp only [pop,el,ll,sl] at hp ⊢ <;> (repeat' split at hp) <;> first
  | (simp_all [ret1]; done)
  | (simp only [Option.map_eq_some_iff,ret1,ORes.mk.injEq,true_and] at hp ⊢; obtain ⟨a,h1,h2,h3,h4⟩:=hp; exact ⟨a,h1,h2,h3,h4⟩)
theorem evOp_free {E:Env} {N:Nat} {f:FuncId} {σ:Tm} {H:Heap} {slot:Nat} {co:COp} {r:ORes} (hq:quietC co=true∨readC co=true∨(bslC co=true∧r.wr=[])) (h:evOp E N f σ H slot co=some r) :
  r.wr=[]∧r.h=H∧∃ is,r.rd=some is∧∀ σ' H',SameO co σ' σ→(∀ i∈is,H'.at_ i=H.at_ i)→evOp E N f σ' H' slot co=some ⟨r.v,H',[],some is⟩:=by
 cases N with
 | zero=>simp [evOp] at h
 | succ n =>
   cases co with
   | call g xs=>simp [quietC,readC,bslC] at hq
   | _ =>
     simp only [evOp] at h ⊢
     obtain ⟨h1,h2,h3⟩:=pop_local h
     have hw:r.wr=[]:=hq.elim (fun q=>(pop_quiet h q).1) fun q=>q.elim (fun q=>(pop_reads h q).1) fun q=>q.2
     have hr:∃ is,r.rd=some is:=hq.elim (fun q=>⟨[],(pop_quiet h q).2⟩) fun q=>q.elim (fun q=>by
      have:=(pop_reads h q).2
      cases hrd:r.rd with
      | none=>exact (this hrd).elim
      | some is=>exact ⟨is,rfl⟩) fun q=>by
      first
       | (simp [bslC] at q; done)
       | (simp only [pop] at h
          split at h
          ·simp only [Option.some.injEq] at h
           subst h
           exact ⟨_,rfl⟩
          ·simp at h)
     obtain ⟨is,hrd⟩:=hr
     have hH:r.h=H:=Heap.ext' h1 fun i=>h2 i (by simp [hw])
     refine ⟨hw,hH,is,hrd,fun σ' H' hs ha=>?_⟩
     have e:=h3 σ' ⟨H.n,H'.at_⟩ hs (by rw [hrd]; exact ⟨rfl,ha⟩)
     rw [hw,patch_nil,hrd] at e
     have e2:=pop_n (P:=E.P) (H:=⟨H.n,H'.at_⟩) (m:=H'.n) (hq.imp id fun q=>q.imp id fun q=>q.1) rfl e
     exact e2
theorem evOp_same {E:Env} (hE:PrimFr E) {N:Nat} {f:FuncId} {σ σ':Tm} {H:Heap} {slot:Nat} {co:COp} {r:ORes} (hs:SameO co σ' σ) (h:evOp E N f σ H slot co=some r):evOp E N f σ' H slot co=some r:=by
 cases N with
 | zero=>simp [evOp] at h
 | succ n =>
   cases co with
   | call g xs =>
     simp only [evOp] at h ⊢
     have h1:=hs g (by simp [COp.uses])
     have h2:xs.map (evO σ')=xs.map (evO σ):=List.map_congr_left fun o ho=>hs o (by simp [COp.uses,ho])
     rw [h1,h2]; exact h
   | _ =>
     simp only [evOp] at h ⊢
     obtain ⟨h1,h2,h3⟩:=pop_local h
     have e:=h3 σ' H hs (by cases r.rd <;> simp [Agree])
     rw [patch_self h1 h2] at e
     exact e
def gstep (E:Env) (n:Nat) (f:FuncId) (L:List CI) (s0 n0:Nat) (i:Nat) (s:RS):Option (RS × Option (List Nat × Option (List Nat))) :=
 if n0≤s.2.n then
  match L[i]? with
  | none=>none
  | some c =>
    if wants s.1 c.guard then
     match evOp E n f s.1 s.2 (slotOf L s0 i) c.op with
     | some r=>some ((s.1.putO c.dst r.v,r.h),some (r.wr,r.rd))
     | none=>none
    else some ((s.1.putO c.dst uv,s.2),none)
 else none
theorem gstep_tstep {E:Env} {n:Nat} {f:FuncId} {L:List CI} {s0 n0 i:Nat} {s s':RS} {a:Option (List Nat × Option (List Nat))} (h:gstep E n f L s0 n0 i s=some (s',a)):tstep E n f L s0 i s=some (s',()):=by
 unfold gstep at h
 unfold tstep
 split at h
 ·cases hc:L[i]? with
  | none=>rw [hc] at h; simp at h
  | some c =>
    rw [hc] at h
    simp only at h ⊢
    by_cases hw:wants s.1 c.guard=true
    ·rw [if_pos hw] at h ⊢
     cases hr:evOp E n f s.1 s.2 (slotOf L s0 i) c.op with
     | none=>rw [hr] at h; simp at h
     | some r=>rw [hr] at h; simp at h; simp [h.1]
    ·rw [if_neg hw] at h ⊢
     simp at h; simp [h.1]
 ·simp at h
theorem run_gstep {E:Env} {n:Nat} {f:FuncId} {L:List CI} {s0 n0:Nat} {acc:Nat→Option (List Nat × Option (List Nat))} {l:List Nat} {s s':RS} (h:Run (gstep E n f L s0 n0) acc l s s'):Run (tstep E n f L s0) (fun _=>()) l s s':=by
 induction h with
 | nil s=>exact .nil s
 | cons h _ ih=>exact .cons (gstep_tstep h) ih
theorem evOps_grun {E:Env} (hE:PrimFr E) {n N:Nat} {f:FuncId} {L:List CI} {s0 n0:Nat}:∀ (l:List CI) (n:Nat),n≤N→∀ (i:Nat) (st:St) (log:Log) (st':St) (log':Log),L.drop i=l→evOps E n f l i (slotOf L s0 i) st log=some (st',log')→(∀ j,i≤j→look j log=none)→n0≤st.h.n →
  (∀ j,j < i→look j log'=look j log)∧Run (gstep E N f L s0 n0) (fun j=>look j log') (List.range' i l.length) (st.σ,st.h) (st'.σ,st'.h)
 | [],n,hN,i,st,log,st',log',hL,h,hlog,hn=>by
   simp [evOps] at h; obtain ⟨rfl,rfl⟩:=h
   exact ⟨fun _ _=>rfl,.nil _⟩
 | c::l,0,hN,i,st,log,st',log',hL,h,hlog,hn=>by simp [evOps] at h
 | c::l,n+1,hN,i,st,log,st',log',hL,h,hlog,hn=>by
   have hc:L[i]?=some c:=by
    have:(L.drop i)[0]?=some c:=by rw [hL]; rfl
    simpa using this
   have hL':L.drop (i+1)=l:=by rw [← List.drop_drop,hL]; rfl
   rw [evOps] at h
   try simp only at h
   rw [← slotOf_succ hc] at h
   split at h
   ·rename_i hw
    split at h
    ·simp at h
    ·rename_i r hr
     have hfr1:=(ev_frame hE n).2.1 _ _ _ _ _ _ hr
     have hnone:∀ j,i+1≤j→look j ((i,r.wr,r.rd)::log)=none:=fun j hj=>by rw [look_lt (by omega)]; exact hlog j (by omega)
     obtain ⟨h1,h2⟩:=evOps_grun hE (N:=N) (n:=n) (n0:=n0) l n (by omega) (i+1) _ _ st' log' hL' h hnone (Nat.le_trans hn hfr1.1)
     refine ⟨fun j hj=>by rw [h1 j (by omega),look_lt (by omega)],?_⟩
     rw [List.length_cons,List.range'_succ]
     refine .cons (s1:=(st.σ.putO c.dst r.v,r.h)) ?_ h2
     have hlook:look i log'=some (r.wr,r.rd):=by rw [h1 i (by omega)]; simp [look]
     unfold gstep
     rw [hc,if_pos hn]
     simp only [hw,if_true,evOp_more (show n≤N by omega) hr,hlook]
   ·rename_i hw
    have hnone:∀ j,i+1≤j→look j log=none:=fun j hj=>hlog j (by omega)
    obtain ⟨h1,h2⟩:=evOps_grun hE (N:=N) (n:=n) (n0:=n0) l n (by omega) (i+1) _ _ st' log' hL' h hnone hn
    refine ⟨fun j hj=>h1 j (by omega),?_⟩
    rw [List.length_cons,List.range'_succ]
    refine .cons (s1:=(st.σ.putO c.dst uv,st.h)) ?_ h2
    have hlook:look i log'=none:=by rw [h1 i (by omega)]; exact hlog i (Nat.le_refl _)
    unfold gstep
    rw [hc,if_pos hn]
    simp only [hw,hlook]
    rfl
section
variable {E:Env} {N:Nat} {f:FuncId} {L:List CI} {s0 n0:Nat} {acc:Nat→Option (List Nat × Option (List Nat))}
theorem gstep_of {x:Nat} {cx:CI} (hx:L[x]?=some cx) {s s1:RS} {a:Option (List Nat × Option (List Nat))} (h:gstep E N f L s0 n0 x s=some (s1,a)) :
  n0≤s.2.n∧((wants s.1 cx.guard=true∧∃ r,evOp E N f s.1 s.2 (slotOf L s0 x) cx.op=some r∧s1=(s.1.putO cx.dst r.v,r.h)∧a=some (r.wr,r.rd))∨(wants s.1 cx.guard=false∧s1=(s.1.putO cx.dst uv,s.2)∧a=none)):=by
 unfold gstep at h
 split at h
 ·rename_i hn
  refine ⟨hn,?_⟩
  rw [hx] at h
  simp only at h
  by_cases hw:wants s.1 cx.guard=true
  ·rw [if_pos hw] at h
   refine .inl ⟨hw,?_⟩
   cases hr:evOp E N f s.1 s.2 (slotOf L s0 x) cx.op with
   | none=>rw [hr] at h; simp at h
   | some r =>
     rw [hr] at h
     simp only [Option.some.injEq,Prod.mk.injEq] at h
     exact ⟨r,rfl,h.1.symm,h.2.symm⟩
  ·rw [if_neg hw] at h
   simp only [Option.some.injEq,Prod.mk.injEq] at h
   exact .inr ⟨by simpa using hw,h.1.symm,h.2.symm⟩
 ·simp at h
theorem gstep_yes {x:Nat} {cx:CI} (hx:L[x]?=some cx) {s:RS} (hn:n0≤s.2.n) (hw:wants s.1 cx.guard=true) {r:ORes} (hr:evOp E N f s.1 s.2 (slotOf L s0 x) cx.op=some r) :
  gstep E N f L s0 n0 x s=some ((s.1.putO cx.dst r.v,r.h),some (r.wr,r.rd)):=by
 unfold gstep
 rw [if_pos hn,hx]
 simp only [hw,if_true,hr]
theorem gstep_no {x:Nat} {cx:CI} (hx:L[x]?=some cx) {s:RS} (hn:n0≤s.2.n) (hw:wants s.1 cx.guard=false) :
  gstep E N f L s0 n0 x s=some ((s.1.putO cx.dst uv,s.2),none):=by
 unfold gstep
 rw [if_pos hn,hx]
 simp [hw]
theorem gswap (hE:PrimFr E) {x y:Nat} {cx cy:CI} (hx:L[x]?=some cx) (hy:L[y]?=some cy) (hn:Apt cx cy) (hq:quietC cx.op=true∨readC cx.op=true∨(bslC cx.op=true∧∀ w rd,acc x=some (w,rd)→w=[]))
  (ha:∀ σ H r is,n0≤H.n→evOp E N f σ H (slotOf L s0 y) cy.op=some r→acc y=some (r.wr,r.rd)→acc x=some ([],some is)→(quietC cx.op=true→is=[])→∀ i∈is,r.h.at_ i=H.at_ i) :
  Swap (gstep E N f L s0 n0) acc x y∧Swap (gstep E N f L s0 n0) acc y x:=by
 have qn:∀ {σ H r is},evOp E N f σ H (slotOf L s0 x) cx.op=some r→r.rd=some is→quietC cx.op=true→is=[]:=fun h e q=>by
  have:=(evOp_quiet h q).2
  rw [e] at this; simpa using this
 have hq2:∀ {rx:ORes},acc x=some (rx.wr,rx.rd)→quietC cx.op=true∨readC cx.op=true∨(bslC cx.op=true∧rx.wr=[]):=fun e=>hq.imp id fun q=>q.imp id fun q=>⟨q.1,q.2 _ _ e⟩
 have fr:∀ {σ H r},evOp E N f σ H (slotOf L s0 y) cy.op=some r→H.n≤r.h.n:=fun h=>((ev_frame hE N).2.1 _ _ _ _ _ _ h).1
 constructor
 ·rintro ⟨σ,H⟩ s1 s2 h1 h2
  obtain ⟨n1,h1⟩:=gstep_of hx h1
  obtain ⟨n2,h2⟩:=gstep_of hy h2
  simp only at n1 h1
  rcases h1 with ⟨wx,rx,hrx,rfl,ax⟩ | ⟨wx,rfl,ax⟩
  ·obtain ⟨w1,w2,is,w3,w4⟩:=evOp_free (hq2 ax) hrx
   rw [w1,w3] at ax
   simp only [w2] at n2 h2 ⊢
   rw [wants_put fun k hk=>(hn.1 k hk).2] at h2
   rcases h2 with ⟨wy,ry,hry,rfl,ay⟩ | ⟨wy,rfl,ay⟩
   ·have hry':=evOp_same hE (same_put' fun k hk=>(hn.1 k hk).2) hry
    refine ⟨_,by rw [ay]; exact gstep_yes hy n1 wy hry',?_⟩
    have e:=w4 (σ.putO cy.dst ry.v) ry.h (same_put fun k hk=>hn.2 k hk) (ha _ _ _ _ n1 hry' ay ax (qn hrx w3))
    rw [gstep_yes hx (Nat.le_trans n1 (fr hry')) (by simp only [wants_put fun k hk=>hn.2 k hk]; exact wx) e,ax,putO_comm fun k hk=>(hn.1 k hk).1]
   ·refine ⟨_,by rw [ay]; exact gstep_no hy n1 wy,?_⟩
    have e:=w4 (σ.putO cy.dst uv) H (same_put fun k hk=>hn.2 k hk) (fun _ _=>rfl)
    rw [gstep_yes hx n1 (by simp only [wants_put fun k hk=>hn.2 k hk]; exact wx) e,ax,putO_comm fun k hk=>(hn.1 k hk).1]
  ·simp only at n2 h2
   rw [wants_put fun k hk=>(hn.1 k hk).2] at h2
   rcases h2 with ⟨wy,ry,hry,rfl,ay⟩ | ⟨wy,rfl,ay⟩
   ·have hry':=evOp_same hE (same_put' fun k hk=>(hn.1 k hk).2) hry
    refine ⟨_,by rw [ay]; exact gstep_yes hy n1 wy hry',?_⟩
    rw [gstep_no hx (Nat.le_trans n1 (fr hry')) (by simp only [wants_put fun k hk=>hn.2 k hk]; exact wx),ax,putO_comm fun k hk=>(hn.1 k hk).1]
   ·refine ⟨_,by rw [ay]; exact gstep_no hy n1 wy,?_⟩
    rw [gstep_no hx n1 (by simp only [wants_put fun k hk=>hn.2 k hk]; exact wx),ax,putO_comm fun k hk=>(hn.1 k hk).1]
 ·rintro ⟨σ,H⟩ s1 s2 h1 h2
  obtain ⟨n1,h1⟩:=gstep_of hy h1
  obtain ⟨n2,h2⟩:=gstep_of hx h2
  simp only at n1 h1
  rcases h1 with ⟨wy,ry,hry,rfl,ay⟩ | ⟨wy,rfl,ay⟩
  ·simp only at n2 h2
   rw [wants_put fun k hk=>hn.2 k hk] at h2
   rcases h2 with ⟨wx,rx,hrx,rfl,ax⟩ | ⟨wx,rfl,ax⟩
   ·obtain ⟨w1,w2,is,w3,w4⟩:=evOp_free (hq2 ax) hrx
    rw [w1,w3] at ax
    have e:=w4 σ H (same_put' fun k hk=>hn.2 k hk) (fun i hi=>(ha _ _ _ _ n1 hry ay ax (qn hrx w3) i hi).symm)
    refine ⟨_,by rw [ax]; exact gstep_yes (s:=(σ,H)) hx n1 wx e,?_⟩
    rw [gstep_yes hy n1 (by simp only [wants_put fun k hk=>(hn.1 k hk).2]; exact wy) (evOp_same hE (same_put fun k hk=>(hn.1 k hk).2) hry),ay,putO_comm fun k hk=>(hn.1 k hk).1,w2]
   ·refine ⟨_,by rw [ax]; exact gstep_no hx n1 wx,?_⟩
    rw [gstep_yes hy n1 (by simp only [wants_put fun k hk=>(hn.1 k hk).2]; exact wy) (evOp_same hE (same_put fun k hk=>(hn.1 k hk).2) hry),ay,putO_comm fun k hk=>(hn.1 k hk).1]
  ·simp only at n2 h2
   rw [wants_put fun k hk=>hn.2 k hk] at h2
   rcases h2 with ⟨wx,rx,hrx,rfl,ax⟩ | ⟨wx,rfl,ax⟩
   ·have hrx':=evOp_same hE (same_put' fun k hk=>hn.2 k hk) hrx
    obtain ⟨w1,w2,is,w3,w4⟩:=evOp_free (hq2 ax) hrx'
    refine ⟨_,by rw [ax]; exact gstep_yes hx n1 wx hrx',?_⟩
    rw [w2,gstep_no hy n1 (by simp only [wants_put fun k hk=>(hn.1 k hk).2]; exact wy),ay,putO_comm fun k hk=>(hn.1 k hk).1]
   ·refine ⟨_,by rw [ax]; exact gstep_no hx n1 wx,?_⟩
    rw [gstep_no hy n1 (by simp only [wants_put fun k hk=>(hn.1 k hk).2]; exact wy),ay,putO_comm fun k hk=>(hn.1 k hk).1]
theorem rdsOf_mem:∀ {l:List CI} {i j:Nat},j∈rdsOf l i→i≤j∧∃ c,l[j - i]?=some c∧(readC c.op || bslC c.op)=true
 | [],i,j,h=>by simp [rdsOf] at h
 | c::l,i,j,h=>by
   have tl:∀ {j},j∈rdsOf l (i+1)→i≤j∧∃ d,(c::l)[j - i]?=some d∧(readC d.op || bslC d.op)=true:=fun {j} h=>by
    obtain ⟨h1,d,h2,h3⟩:=rdsOf_mem h
    refine ⟨by omega,d,?_,h3⟩
    rw [show j - i=(j - (i+1))+1 by omega]
    simpa using h2
   rw [rdsOf] at h
   split at h
   ·rename_i hr
    rcases List.mem_cons.1 h with rfl | h
    ·exact ⟨Nat.le_refl _,c,by simp,hr⟩
    ·exact tl h
   ·exact tl h
theorem rdOK_of {log:Log} {n j:Nat} {c:CI} (hc:L[j]?=some c) (h:rdOK (rdsOf L 0) log n j=true):(readC c.op=true∨(bslC c.op=true∧∀ w rd,look j log=some (w,rd)→w=[]))∧∀ w is,look j log=some (w,some is)→∀ i∈is,i < n:=by
 unfold rdOK at h
 rw [Bool.and_eq_true] at h
 obtain ⟨_,d,h1,h2⟩:=rdsOf_mem (by simpa using h.1)
 simp only [Nat.sub_zero] at h1
 rw [hc] at h1; simp at h1; subst h1
 have key:∀ w rd,look j log=some (w,rd)→w=[]∧∀ is,rd=some is→∀ i∈is,i < n:=fun w rd hl=>by
  have:=h.2
  rw [hl] at this
  cases w with
  | cons a w=>simp at this
  | nil =>
    refine ⟨rfl,fun is e i hi=>?_⟩
    subst e
    simp only [List.all_eq_true] at this
    simpa using this i hi
 rw [Bool.or_eq_true] at h2
 exact ⟨h2.imp id fun q=>⟨q,fun w rd hl=>(key w rd hl).1⟩,fun w is hl=>(key w _ hl).2 is rfl⟩
theorem gOK_mem {rs:List Nat} {log:Log} {n:Nat}:∀ {pairs:List (Nat × Nat)},gOK rs log n pairs=true→∀ j i,(j,i)∈pairs→rdOK rs log n j=true∨rdOK rs log n i=true
 | (a,b)::rest,h,j,i,hm=>by
   simp only [gOK,Bool.and_eq_true,Bool.or_eq_true] at h
   rcases List.mem_cons.1 hm with h1 | h1
   ·simp only [Prod.mk.injEq] at h1
    obtain ⟨rfl,rfl⟩:=h1
    exact h.1
   ·exact gOK_mem h.2 j i h1
end
theorem any_orderG {E:Env} (hE:PrimFr E) {N:Nat} {f:FuncId} {ops:Array Oper} {L:List CI} {s0 n0:Nat} {log:Log} {s s':RS} (hlen:L.length=ops.size) (he:edgesOK ops=true) (hn:namesOK ops L=true)
  (ho:ordered log (openPairs ops L)=true) (hg:gOK (rdsOf L 0) log n0 (openPairs ops L)=true) (hr:Run (gstep E N f L s0 n0) (fun j=>look j log) (List.range' 0 ops.size) s s') (mixed:Bool) (t:Nat) :
  ∃ l,Region.schedule mixed ops t=l∧Run (gstep E N f L s0 n0) (fun j=>look j log) l s s'∧l.Nodup∧∀ x∈l,x < ops.size:=by
 obtain ⟨l,h1,h2,h3⟩:=schedule_any he mixed t
 refine ⟨l.reverse,h1,?_,nodup_rev h2.nodup,fun x hx=>h2.lt x (by simpa using hx)⟩
 refine Run.perm (ord:=fun x y=>((Region.before ops).getD y 0).testBit x=true) (front_perm h2 h3) List.nodup_range' ?_ ?_ hr
 ·refine (range'_pairwise ops.size 0).imp fun {x y} ⟨hxy,hy⟩=>?_
  have hy':y < ops.size:=by omega
  by_cases hb:((Region.before ops).getD y 0).testBit x=true
  ·exact .inl hb
  ·refine .inr ?_
   have hb':((Region.before ops).getD y 0).testBit x=false:=by simpa using hb
   have hx:x < L.length:=by omega
   have hyl:y < L.length:=by omega
   have gx:=List.getElem?_eq_getElem hx
   have gy:=List.getElem?_eq_getElem hyl
   have hn1:=List.all_eq_true.1 hn y (List.mem_range.2 hy')
   have hn2:=List.all_eq_true.1 hn1 x (List.mem_range.2 hxy)
   rw [gx,gy] at hn2
   simp only [hb',Bool.false_or] at hn2
   have hap:=(apartN_apt hn2).symm
   by_cases q1:quietC L[x].op=true
   ·refine (gswap hE gx gy hap (.inl q1) fun σ H r is _ hev ay ax hq i hi=>?_).1
    rw [hq q1] at hi; simp at hi
   by_cases q2:quietC L[y].op=true
   ·refine (gswap hE gy gx hap.symm (.inl q2) fun σ H r is _ hev ay ax hq i hi=>?_).2
    rw [hq q2] at hi; simp at hi
   by_cases q3:readC L[x].op=true∧readC L[y].op=true
   ·exact (gswap hE gx gy hap (.inr (.inl q3.1)) fun σ H r is _ hev ay ax hq i hi=>by rw [(evOp_free (.inr (.inl q3.2)) hev).2.1]).1
   have hm:(x,y)∈openPairs ops L:=by
    unfold openPairs
    rw [List.mem_flatMap]
    refine ⟨y,List.mem_range.2 hy',List.mem_map.2 ⟨x,List.mem_filter.2 ⟨List.mem_range.2 hxy,?_⟩,rfl⟩⟩
    rw [gx,gy]
    simp only [hb',Bool.not_false,Bool.true_and,Bool.and_eq_true,Bool.not_eq_true']
    refine ⟨⟨by simpa using q2,by simpa using q1⟩,?_⟩
    rw [Bool.and_eq_false_iff]
    by_cases q4:readC L[x].op=true
    ·exact .inl (by simpa using fun q=>q3 ⟨q4,q⟩)
    ·exact .inr (by simpa using q4)
   have key:∀ {H:Heap} {r:ORes} {is:List Nat},n0≤H.n→Fr H r.h r.wr→(∀ i∈is,i < n0)→hits r.wr (some is)=false→∀ i∈is,r.h.at_ i=H.at_ i:=fun {H r is} h1 h2 h3 h4 i hi=>by
    refine h2.2 i (Nat.lt_of_lt_of_le (h3 i hi) h1) fun q=>?_
    simp only [hits,List.any_eq_false] at h4
    have:=h4 i q
    simp [hi] at this
   rcases gOK_mem hg x y hm with q | q
   ·obtain ⟨k1,k2⟩:=rdOK_of gx q
    refine (gswap hE gx gy hap (.inr k1) fun σ H r is hn0 hev ay ax hq=>?_).1
    have hap':=ordered_mem ho x y hm _ _ ax ay
    simp only [apart,Bool.and_eq_true,Bool.not_eq_true'] at hap'
    exact key hn0 ((ev_frame hE N).2.1 _ _ _ _ _ _ hev) (k2 _ _ ax) hap'.1.2
   ·obtain ⟨k1,k2⟩:=rdOK_of gy q
    refine (gswap hE gy gx hap.symm (.inr k1) fun σ H r is hn0 hev ax ay hq=>?_).2
    have hap':=ordered_mem ho x y hm _ _ ax ay
    simp only [apart,Bool.and_eq_true,Bool.not_eq_true'] at hap'
    exact key hn0 ((ev_frame hE N).2.1 _ _ _ _ _ _ hev) (k2 _ _ ay) hap'.1.1
 ·refine (front_pairwise he h2).imp fun {x y} hxy=>?_
  rw [hxy]; exact Bool.false_ne_true
end Go.Evl

namespace Go.Evl
open Go
inductive LtP (n:Nat):PV→Prop
 | val (v:Value):LtP n (.val v)
 | ifc:LtP n .ifc
 | im (xs:List (List PV)) (full:Bool):LtP n (.im xs full)
 | ip (xs:List (List PV)) (i j:Nat):LtP n (.ip xs i j)
 | agg (ps:List PV) (h:∀ p∈ps,LtP n p):LtP n (.agg ps)
 | tup (ps:List PV) (h:∀ p∈ps,LtP n p):LtP n (.tup ps)
 | fn (f:FuncId) (ps:List PV) (h:∀ p∈ps,LtP n p):LtP n (.fn f ps)
 | ptr (r o:Nat) (h:r < n):LtP n (.ptr r o)
 | rp (r k gen i j:Nat) (h:r < n):LtP n (.rp r k gen i j)
 | sl (r k gen off len:Nat) (h:r < n):LtP n (.sl r k gen off len)
theorem mem_of_both {α β:Type} {Q:β→Prop} {cs:List α} {ps:List β} (hl:cs.length=ps.length) (h:∀ (i:Nat) (c:α) (p:β),cs[i]?=some c→ps[i]?=some p→Q p):∀ p∈ps,Q p:=by
 intro p hp
 obtain ⟨i,hi,rfl⟩:=List.getElem_of_mem hp
 exact h i cs[i] ps[i] (List.getElem?_eq_getElem (by omega)) (List.getElem?_eq_getElem hi)
theorem GenOK.lt {g:G} (hW:WR g) {r gen:Nat} (h:GenOK g r gen):r < g.H.n:=by
 obtain ⟨n,hn,_⟩:=h
 rcases Nat.lt_or_ge r g.H.n with h | h
 ·exact h
 ·rw [hW.dead r h] at hn; simp [rowLen] at hn
theorem VR.ltP {g:G} (hW:WR g) {v:Value} {p:PV} (h:VR g v p):LtP g.H.n p:=by
 induction h with
 | val v=>exact .val v
 | agg cs ps hl _ ih=>exact .agg ps (mem_of_both hl ih)
 | tup cs ps hl _ ih=>exact .tup ps (mem_of_both hl ih)
 | ptr b r o hb hi =>
   refine .ptr r o ?_
   rcases Nat.lt_or_ge r g.H.n with h | h
   ·exact h
   ·rw [hW.dead r h] at hb; exact hb.elim
 | rp a r k gen i j hg h=>exact .rp r k gen i j (hg.lt hW)
 | ip=>exact .ip _ _ _
 | sl a r k gen off len cap hlc hg h=>exact .sl r k gen off len (hg.lt hW)
 | imE=>exact .im _ _
 | imC=>exact .im _ _
 | fn f cs ps hl _ ih=>exact .fn f ps (mem_of_both hl ih)
 | ifc t x=>exact .ifc
theorem belowC_lt {n:Nat} {p:PV} (h:belowC n p=true):LtP n p:=by
 cases p with
 | val v=>exact .val v
 | ifc=>exact .ifc
 | im xs full=>exact .im _ _
 | ip xs i j=>exact .ip _ _ _
 | ptr r o=>exact .ptr r o (by simpa [belowC] using h)
 | rp r k gen i j=>exact .rp r k gen i j (by simpa [belowC] using h)
 | sl r k gen off len=>exact .sl r k gen off len (by simpa [belowC] using h)
 | _=>simp [belowC] at h
theorem belowF_lt {n:Nat} {p:PV} (h:belowF n p=true):LtP n p:=by
 cases p with
 | fn f cs =>
   refine .fn f cs fun p hp=>belowC_lt ?_
   simp only [belowF,List.all_eq_true] at h
   exact h p hp
 | _=>exact belowC_lt h
def inside:Blk→List (List PV)
 | .box cs=>[cs]
 | .row _ xs _=>xs
 | .dead=>[]
theorem below_inside {n:Nat} {b:Blk} (h:b.below n=true):∀ x∈inside b,∀ p∈x,LtP n p:=by
 cases b with
 | box cs =>
   intro x hx p hp
   simp [inside] at hx; subst hx
   simp only [Blk.below,List.all_eq_true] at h
   exact belowF_lt (h p hp)
 | row k xs own =>
   intro x hx p hp
   simp only [Blk.below,List.all_eq_true] at h
   exact belowF_lt (h x hx p hp)
 | dead=>intro x hx; simp [inside] at hx
theorem wr_inside {g:G} (hW:WR g) (r:Nat):∀ x∈inside (g.H.at_ r),∀ p∈x,LtP g.H.n p:=by
 intro x hx p hp
 obtain ⟨j,hj,rfl⟩:=List.getElem_of_mem hp
 cases hb:g.H.at_ r with
 | box cs =>
   rw [hb] at hx
   simp [inside] at hx; subst hx
   obtain ⟨b,c,t,h1,h2,h3,h4⟩:=hW.box r x hb
   obtain ⟨cv,_,hv⟩:=h4 j _ (List.getElem?_eq_getElem hj)
   exact hv.ltP hW
 | row k xs own =>
   rw [hb] at hx
   simp only [inside] at hx
   obtain ⟨a1,a2,b,c,t,fr,q1,q2,q3,q4,q5,q6⟩:=hW.row r k xs own hb
   obtain ⟨i,hi,rfl⟩:=List.getElem_of_mem hx
   obtain ⟨cv,_,_,hv⟩:=q6 i _ j _ (List.getElem?_eq_getElem hi) (List.getElem?_eq_getElem hj)
   exact hv.ltP hW
 | dead=>rw [hb] at hx; simp [inside] at hx
theorem VR.cut {g g':G} {n:Nat} (hw:g'.w=g.w) (hZ:g'.Z=g.Z) (hι:g'.ι=g.ι) (hat:∀ r,r < n→g'.H.at_ r=g.H.at_ r) {v:Value} {p:PV} (h:VR g v p) (hl:LtP n p):VR g' v p:=by
 have hno:∀ {v:Value} {p:PV},VR g v p→NoIds p→VR g' v p:=fun h hn=>h.noids (fun b hb=>⟨by rw [hZ]; exact hb,by rw [hw]⟩) hn
 induction h with
 | val v=>exact .val v
 | agg cs ps hl' _ ih=>cases hl with | agg _ hl=>exact .agg cs ps hl' fun i c p hc hp=>ih i c p hc hp (hl p (List.mem_of_getElem? hp))
 | tup cs ps hl' _ ih=>cases hl with | tup _ hl=>exact .tup cs ps hl' fun i c p hc hp=>ih i c p hc hp (hl p (List.mem_of_getElem? hp))
 | ptr b r o hb hi =>
   cases hl with | ptr _ _ hr=>exact .ptr b r o (by rw [hat r hr]; exact hb) (by rw [hι]; exact hi)
 | rp a r k gen i j hg h =>
   cases hl with
   | rp _ _ _ _ _ hr =>
     refine .rp a r k gen i j ?_ fun b hv=>h b ?_
     ·obtain ⟨n',h1,h2⟩:=hg; exact ⟨n',by rw [hat r hr]; exact h1,h2⟩
     ·obtain ⟨v1,v2,v3⟩:=hv
      rw [hι] at v1; rw [hat r hr] at v2 v3
      exact ⟨v1,v2,v3⟩
 | ip b off k c t fr xs i j cv hZb hb hk hn hc hh _ =>
   exact .ip b off k c t fr xs i j cv (by rw [hZ]; exact hZb) (by rw [hw]; exact hb) hk hn hc fun i x j p hx hp=>hno (hh i x j p hx hp) (hn x (List.mem_of_getElem? hx) p (List.mem_of_getElem? hp))
 | sl a r k gen off len cap hlc hg h =>
   cases hl with
   | sl _ _ _ _ _ hr =>
     refine .sl a r k gen off len cap hlc ?_ fun b hv=>?_
     ·obtain ⟨n',h1,h2⟩:=hg; exact ⟨n',by rw [hat r hr]; exact h1,h2⟩
     ·obtain ⟨v1,v2,v3⟩:=hv
      rw [hι] at v1; rw [hat r hr] at v2 v3
      have:=h b ⟨v1,v2,v3⟩
      rw [hw]; exact this
 | imE a cap full hc=>exact .imE a cap full hc
 | imC b off cap k c t fr xs full cv hx hf hl' hZb hb hk hn hc hh _ =>
   exact .imC b off cap k c t fr xs full cv hx hf hl' (by rw [hZ]; exact hZb) (by rw [hw]; exact hb) hk hn hc fun i x j p hx hp=>hno (hh i x j p hx hp) (hn x (List.mem_of_getElem? hx) p (List.mem_of_getElem? hp))
 | fn f cs ps hl' _ ih=>cases hl with | fn _ _ hl=>exact .fn f cs ps hl' fun i c p hc hp=>ih i c p hc hp (hl p (List.mem_of_getElem? hp))
 | ifc t x=>exact .ifc t x
def G.cut (g1 g:G):G:={ g1 with H:=g1.H.cut g.H }
theorem cut_at {h H:Heap} {r:Nat} (hr:r < H.n):(h.cut H).at_ r=h.at_ r:=by
 show (if r < H.n then h.at_ r else H.at_ r)=_
 rw [if_pos hr]
theorem cut_ge {h H:Heap} {r:Nat} (hr:¬ r < H.n):(h.cut H).at_ r=H.at_ r:=by
 show (if r < H.n then h.at_ r else H.at_ r)=_
 rw [if_neg hr]
theorem cut_world {g g1:G} (hW:WR g) (hW1:WR g1) (e:Ext g g1) (hb:∀ r,r < g.H.n→∀ x∈inside (g1.H.at_ r),∀ p∈x,LtP g.H.n p):WR (g1.cut g)∧Ext g (g1.cut g):=by
 have live:∀ r,(g1.cut g).H.at_ r≠.dead→r < g.H.n:=fun r hr=>Classical.byContradiction fun hn=>hr (by
  show (g1.H.cut g.H).at_ r=_
  rw [cut_ge hn,hW.dead r (by omega)])
 have hat:∀ r,r < g.H.n→(g1.cut g).H.at_ r=g1.H.at_ r:=fun r hr=>cut_at hr
 have hc:∀ {v:Value} {p:PV},VR g1 v p→LtP g.H.n p→VR (g1.cut g) v p:=fun h hl=>VR.cut (g:=g1) (g':=g1.cut g) (n:=g.H.n) rfl rfl rfl hat h hl
 have hown:∀ r,isOwn ((g1.cut g).H.at_ r)→isOwn (g1.H.at_ r):=fun r h=>by
  have:=live r (fun q=>by rw [q] at h; exact h.elim)
  rw [hat r this] at h; exact h
 refine ⟨⟨?_,hW1.lt,?_,?_,?_,?_,hW1.zlt⟩,⟨Nat.le_refl _,e.sz,e.zin,e.znew,e.keep,e.size,?_,?_,?_,e.out⟩⟩
 ·intro r hr
  have hr:g.H.n≤r:=hr
  show (g1.H.cut g.H).at_ r=_
  rw [cut_ge (by omega),hW.dead r hr]
 ·intro r cs h
  have hr:=live r (by rw [h]; simp)
  have h':=h
  rw [hat r hr] at h'
  obtain ⟨b,c,t,h1,h2,h3,h4⟩:=hW1.box r cs h'
  refine ⟨b,c,t,h1,h2,h3,fun j p hp=>?_⟩
  obtain ⟨cv,x,y⟩:=h4 j p hp
  exact ⟨cv,x,hc y (hb r hr cs (by rw [h']; simp [inside]) p (List.mem_of_getElem? hp))⟩
 ·intro r k xs own h
  have hr:=live r (by rw [h]; simp)
  have h':=h
  rw [hat r hr] at h'
  obtain ⟨a1,a2,b,c,t,fr,q1,q2,q3,q4,q5,q6⟩:=hW1.row r k xs own h'
  refine ⟨a1,a2,b,c,t,fr,q1,q2,q3,q4,q5,fun i x j p hx hp=>?_⟩
  obtain ⟨cv,y1,y2,y3⟩:=q6 i x j p hx hp
  exact ⟨cv,y1,y2,hc y3 (hb r hr x (by rw [h']; exact List.mem_of_getElem? hx) p (List.mem_of_getElem? hp))⟩
 ·exact fun r r' b h h' hi hi'=>hW1.inj r r' b (hown r h) (hown r' h') hi hi'
 ·exact fun r b h hi=>hW1.z r b (hown r h) hi
 ·rintro b ⟨r,h1,h2⟩
  exact e.own b ⟨r,hown r h1,h2⟩
 ·intro r b h h'
  have hr:r < g.H.n:=Classical.byContradiction fun hn=>by rw [hW.dead r (by omega)] at h; exact h
  rw [hat r hr]
  exact e.box r b h h'
 ·intro r n h
  have hr:r < g.H.n:=Classical.byContradiction fun hn=>by rw [hW.dead r (by omega)] at h; simp [rowLen] at h
  rw [hat r hr]
  exact e.row r n h
theorem flat_any {g g':G} {v:Value} {p:PV} (h:VR g v p) (hf:flatV p=true):VR g' v p:=by
 have h1:∀ {v:Value} {p:PV},VR g v p→flatC p=true→VR g' v p:=by
  intro v p h hf
  cases h with
  | val v=>exact .val v
  | ifc t x=>exact .ifc t x
  | imE a cap full hc=>exact .imE a cap full hc
  | imC b off cap k c t fr xs full cv hx=>cases xs <;> simp [flatC] at hf hx
  | fn f cs ps hl _ =>
    cases ps with
    | nil=>exact .fn f cs [] hl (by simp)
    | cons p ps=>simp [flatC] at hf
  | _=>simp [flatC] at hf
 have h2:∀ {v:Value} {p:PV},VR g v p→flatA p=true→VR g' v p:=by
  intro v p h hf
  cases h with
  | agg cs ps hl h =>
    simp only [flatA,List.all_eq_true] at hf
    exact .agg cs ps hl fun i c p hc hp=>h1 (h i c p hc hp) (hf p (List.mem_of_getElem? hp))
  | _=>exact h1 (by constructor <;> assumption) hf
 cases h with
 | tup cs ps hl h =>
   simp only [flatV,List.all_eq_true] at hf
   exact .tup cs ps hl fun i c p hc hp=>h2 (h i c p hc hp) (hf p (List.mem_of_getElem? hp))
 | _=>exact h2 (by constructor <;> assumption) hf
end Go.Evl

namespace Go.Evl
open Go
theorem mapM_run {α:Type} {P:Program} {f:α→Sem Value} {w:World}:∀ {l:List α} {vs:List Value},l.length=vs.length→(∀ (i:Nat) (x:α) (v:Value),l[i]?=some x→vs[i]?=some v→(f x).run P w = .ok v w)→(l.mapM f).run P w = .ok vs w
 | [],[],_,_=>rfl
 | [],v::vs,h,_=>by simp at h
 | x::l,[],h,_=>by simp at h
 | x::l,v::vs,h,hf=>by
   rw [List.mapM_cons]
   simp only [Sem.run_bind,hf 0 x v rfl rfl,Result.andThen_ok,mapM_run (l:=l) (vs:=vs) (by simpa using h) (fun i x v hx hv=>hf (i+1) x v hx hv),Sem.run_pure]
theorem cRes_get {P:Program} {nt:Nat}:∀ {rs:List ResultVar} {cs:List CR},cRes P nt rs=some cs→∀ {g:G} {a:Array Value} {st:St},WR g→g.H=st.h→TR g a st.σ→∀ {ps:List PV},resP st cs=some ps →
  ∃ vs:List Value,rs.length=vs.length∧Cs g vs ps∧∀ (i:Nat) (x:ResultVar) (v:Value),rs[i]?=some x→vs[i]?=some v→(match x with | .tmp t=>pure (a.getD t undef) | .cell b t=>(asAddr (a.getD b undef)).bind fun ad=>loadVar t ad:Sem Value).run P g.w = .ok v g.w
 | [],cs,h,g,a,st,hW,hH,hT,ps,hp=>by
   simp [cRes] at h; subst h
   simp [resP] at hp; subst hp
   exact ⟨[],rfl,Cs.nil g,by simp⟩
 | .tmp t::rest,cs,h,g,a,st,hW,hH,hT,ps,hp=>by
   simp only [cRes] at h
   split at h
   ·simp only [Option.map_eq_some_iff] at h
    obtain ⟨l,hl,rfl⟩:=h
    simp only [resP] at hp
    split at hp
    ·rename_i vs' hv
     simp at hp; subst hp
     obtain ⟨vs,h1,h2,h3⟩:=cRes_get hl hW hH hT hv
     refine ⟨a.getD t undef::vs,by simp [h1],Cs.cons (hT t) h2,fun i x v hx hv=>?_⟩
     cases i with
     | zero=>simp at hx hv; subst hx; subst hv; simp
     | succ i=>exact h3 i x v (by simpa using hx) (by simpa using hv)
    ·simp at hp
   ·simp at h
 | .cell b t::rest,cs,h,g,a,st,hW,hH,hT,ps,hp=>by
   simp only [cRes] at h
   split at h
   ·rename_i n agg l hs ha hl
    split at h
    ·simp at h; subst h
     simp only [resP] at hp
     split at hp
     ·rename_i v is vs' hload hv
      simp at hp; subst hp
      obtain ⟨vs,h1,h2,h3⟩:=cRes_get hl hW hH hT hv
      unfold loadP at hload
      split at hload
      ·rename_i cs' is' hlc
       simp only [Option.map_eq_some_iff,Prod.mk.injEq] at hload
       obtain ⟨p,hp1,rfl,rfl⟩:=hload
       rw [← hH] at hlc
       obtain ⟨hn,bb,off,hvv,us,hcs,hc⟩:=load_sound hW (hT b) hlc
       obtain ⟨u,hu1,hu2⟩:=run_loadVar (P:=P) hs ha (by rw [hcs.1,hn]) hc hcs hp1
       refine ⟨u::vs,by simp [h1],Cs.cons hu2 h2,fun i x v hx hv=>?_⟩
       cases i with
       | zero =>
         simp at hx hv; subst hx; subst hv
         simp only [hvv,asAddr]
         exact hu1
       | succ i=>exact h3 i x v (by simpa using hx) (by simpa using hv)
      ·simp at hload
     ·simp at hp
    ·simp at h
   ·simp at h
theorem results_sound {P:Program} {fn:Func} {cs:List CR} (h:cRes P fn.ntmps fn.results.toList=some cs) {g:G} {a:Array Value} {st:St} (hW:WR g) (hH:g.H=st.h) (hT:TR g a st.σ) {p:PV} (hp:resV st cs=some p) :
  ∃ v,(results fn a).run P g.w = .ok v g.w∧VR g v p:=by
 have key:∀ {ps:List PV},resP st cs=some ps→∃ vs:List Value,Cs g vs ps∧(results fn a).run P g.w = .ok (if h:vs.toArray.size=1 then vs.toArray[0] else .tuple vs.toArray) g.w:=by
  intro ps hps
  obtain ⟨vs,h1,h2,h3⟩:=cRes_get h hW hH hT hps
  refine ⟨vs,h2,?_⟩
  unfold results
  rw [Array.mapM_eq_mapM_toList]
  simp only [Sem.run_bind,map_eq_pure_bind]
  rw [mapM_run (P:=P) (w:=g.w) (vs:=vs) h1 ?side]
  ·rfl
  ·intro i x v hx hv
   have:=h3 i x v hx hv
   cases x <;> exact this
 unfold resV at hp
 split at hp
 ·rename_i v hv
  simp at hp; subst hp
  obtain ⟨vs,h1,h2⟩:=key hv
  match vs,h1 with
  | [],h1=>simp [Cs] at h1
  | [u],h1=>exact ⟨u,by simpa using h2,h1.2 0 u v rfl rfl⟩
  | _::_::_,h1=>have:=h1.1; simp at this
 ·rename_i ps hne hv
  simp at hp; subst hp
  obtain ⟨vs,h1,h2⟩:=key hv
  refine ⟨_,h2,?_⟩
  have hs:vs.toArray.size≠1:=fun q=>by
   have:ps.length=1:=by rw [← h1.1]; simpa using q
   match ps,this with
   | [x],_=>exact hne x rfl
  rw [dif_neg hs]
  exact VR.of_tup h1
 ·simp at hp
def Goes (P:Program) (f:FuncId) (args:Array Value) (w:World) (R:Value→World→Prop):Prop :=
 match (callFunc f args).run P w with
 | .ok (.enter f' as) w'=>Calls P f' as w' fun | .returned v,w''=>R v w'' | _,_=>False
 | .ok (.value v) w'=>R v w'
 | _=>False
structure PrimOK (E:Env) (Inv:G→Prop):Prop where
 ok:∀ c f p,E.prim c f=some p→∀ args H r,p args H=some r→∀ (g:G) (vs:List Value) (R:Value→World→Prop),WR g→Inv g→g.H=H→Cs g vs args →
  (∀ g' v,g'.H=r.h→WR g'→Ext g g'→VR g' v r.v→R v g'.w)→Goes E.P f vs.toArray g.w R
def CallOK (E:Env) (Inv:G→Prop) (N:Nat):Prop:=∀ (caller f:FuncId) (args:List PV) (r:ORes) (g:G) (vs:List Value) (R:Value→World→Prop),WR g→Inv g→Cs g vs args→evCall E N caller f args g.H=some r →
  (∀ g' v,g'.H=r.h→WR g'→Ext g g'→VR g' v r.v→R v g'.w)→Goes E.P f vs.toArray g.w R
def exOf:Ex→Exit
 | .normal=>.normal
 | .exit id=>if id < gB then .exit id else .goto (id - gB)
 | .ret=>.ret
def EvOK (E:Env) (Inv:G→Prop) (N:Nat):Prop:=∀ (f:FuncId) (c:CC) (code:Code) (nt:Nat) (g:G) (a:Act) (st:St) (e:Ex) (st':St) (Q:Exit→Act→World→Prop),comp E.P nt code=some c →
  WR g→Inv g→g.H=st.h→TR g a.tmps st.σ→nt≤a.tmps.size→ev E N f c st=some (e,st') →
  (∀ g' a',Ext g g'→WR g'→g'.H=st'.h→TR g' a'.tmps st'.σ→nt≤a'.tmps.size→a'.defers=a.defers→Q (exOf e) a' g'.w)→code.wp E.P Q a g.w
theorem closed_ev {E:Env}:∀ (N:Nat) (ids:List Nat) (f:FuncId) (c:CC) (st:St) (id:Nat) (st':St),c.closed ids=true→ev E N f c st=some (.exit id,st')→id∈ids
 | 0,ids,f,c,st,id,st',hc,h=>by simp [ev] at h
 | N+1,ids,f,c,st,id,st',hc,h=>by
   cases c with
   | skip=>simp [ev] at h
   | ret=>simp [ev] at h
   | exit j=>simp [ev] at h; simp [CC.closed] at hc; rw [← h.1]; exact hc
   | reg draw ops pairs =>
     rw [ev] at h
     try simp only at h
     split at h
     ·split at h
      ·split at h <;> simp at h
      ·simp at h
     ·simp at h
   | seq x y =>
     simp only [CC.closed,Bool.and_eq_true] at hc
     rw [ev] at h
     try simp only at h
     split at h
     ·exact closed_ev N ids f y _ id st' hc.2 h
     ·exact closed_ev N ids f x _ id st' hc.1 h
   | cond o x y =>
     simp only [CC.closed,Bool.and_eq_true] at hc
     rw [ev] at h
     try simp only at h
     split at h
     ·rename_i t _
      cases t
      ·exact closed_ev N ids f y _ id st' hc.2 h
      ·exact closed_ev N ids f x _ id st' hc.1 h
     ·simp at h
   | block j b =>
     simp only [CC.closed] at hc
     rw [ev] at h
     try simp only at h
     split at h
     ·rename_i k st2 hr
      split at h
      ·simp at h
      ·rename_i hk
       simp at h
       have:=closed_ev N (j::ids) f b _ k _ hc hr
       rcases List.mem_cons.1 this with q | q
       ·exact (hk q).elim
       ·rw [← h.1]; exact q
     ·rename_i hno
      exact (hno id st' h).elim
   | loop b =>
     simp only [CC.closed] at hc
     rw [ev] at h
     try simp only at h
     split at h
     ·exact closed_ev N ids f (.loop b) _ id st' (by simpa [CC.closed] using hc) h
     ·exact closed_ev N ids f b _ id st' hc h
theorem start_sound {g:G} {vs:List Value} {args:List PV} (h:Cs g vs args) (m:Nat):TR g (vs.toArray++Array.replicate m undef) (start args):=by
 intro t
 unfold start
 rw [Array.getD_eq_getD_getElem?,List.getD_eq_getElem?_getD]
 by_cases ht:t < vs.length
 ·rw [Array.getElem?_append_left (by simpa using ht)]
  have hp:t < args.length:=by rw [← h.1]; exact ht
  rw [List.getElem?_eq_getElem hp]
  have:vs.toArray[t]?=some vs[t]:=by simp [ht]
  rw [this]
  exact h.2 t _ _ (List.getElem?_eq_getElem ht) (List.getElem?_eq_getElem hp)
 ·rw [Array.getElem?_append_right (by simpa using ht)]
  rw [List.getElem?_eq_none (by rw [← h.1]; omega)]
  simp only [Array.getElem?_replicate,Option.getD_none]
  split <;> exact .val _
theorem code_get {E : Env} {f : FuncId} {cf : CF} (h : E.code f = some cf) : ∃ fn b, E.P.funcs[f]? = some fn ∧ fn.body = some b ∧ comp E.P fn.ntmps b = some cf.body ∧ cRes E.P fn.ntmps fn.results.toList = some cf.res ∧ (fn.name == "runtime.NumGoroutine") = false ∧ cf.body.closed [] = true := by
 unfold Env.code at h
 split at h
 ·rename_i fn hfn
  split at h
  ·rename_i b hb
   split at h
   ·rename_i c r hc hr
    split at h
    ·simp at h
    ·rename_i hn
     simp at h; subst h
     simp only [Bool.or_eq_true,Bool.not_eq_true',not_or,Bool.not_eq_true,Bool.not_eq_false] at hn
     exact ⟨fn,b,hfn,hb,hc,hr,hn.1,hn.2⟩
   ·simp at h
  ·simp at h
 ·simp at h
theorem body_sound {E:Env} {Inv:G→Prop} {N:Nat} (hev:EvOK E Inv N) {f:FuncId} {cf:CF} (hc:E.code f=some cf) {g:G} {vs:List Value} {args:List PV} {H:Heap} {wl:List Nat} {e:Ex} {st:St} {p:PV} {R:Value→World→Prop} (hW:WR g) (hinv:Inv g) (hH:g.H=H) (ha:Cs g vs args)
  (h:ev E N f cf.body ⟨start args,H,wl⟩=some (e,st)) (hp:resV st cf.res=some p) (hR:∀ g' v,Ext g g'→WR g'→g'.H=st.h→VR g' v p→R v g'.w):Goes E.P f vs.toArray g.w R:=by
 obtain ⟨fn,b,h1,h2,h3,h4,h5,h6⟩:=code_get hc
 have hrun:(callFunc f vs.toArray).run E.P g.w = .ok (.enter f vs.toArray) g.w:=by
  unfold callFunc
  simp only [Sem.run_bind]
  rw [show (program:Sem Program).run E.P g.w = .ok E.P g.w from rfl]
  simp only [Result.andThen_ok,h1,h5,h2]
  rfl
 unfold Goes
 rw [hrun]
 refine calls_of_wp h1 h2 ?_
 refine hev f cf.body b fn.ntmps g _ ⟨start args,H,wl⟩ e st _ h3 hW hinv hH (start_sound ha _) (by simp; omega) h ?_
 intro g' a' he hW' hH' hT' hnt hd
 obtain ⟨v,hv1,hv2⟩:=results_sound h4 hW' hH' hT' hp
 have hfin:=hR g' v he hW' hH' hv2
 cases e with
 | normal=>exact ⟨hd,v,hv1,hfin⟩
 | ret=>exact ⟨hd,v,hv1,hfin⟩
 | exit id=>have:=closed_ev N [] f cf.body _ id st h6 h; simp at this
end Go.Evl

namespace Go.Evl
open Go
theorem inside_freeze {H:Heap} {is:List Nat} {r:Nat}:inside ((freeze H is).at_ r)=inside (H.at_ r):=by
 rw [freeze_at]
 split
 ·cases H.at_ r <;> rfl
 ·rfl
theorem call_own {E:Env} {Inv:G→Prop} (hI:InvOK Inv) {N:Nat} (hev:EvOK E Inv N) {f:FuncId} {cf:CF} (hc:E.code f=some cf) {args as:List PV} {is is':List Nat} {e:Ex} {st:St} {p q:PV} {g:G} {vs:List Value} {R:Value→World→Prop} (hW:WR g) (hinv:Inv g) (ha:Cs g vs args)
  (hx:expAs g.H args=some (as,is)) (h:ev E N f cf.body ⟨start as,Heap.empty,[]⟩=some (e,st)) (hp:resV st cf.res=some p) (hq:expV st.h p=some (q,is'))
  (hb:flatV q=true→∀ g' v,g'.H=g.H→WR g'→Ext g g'→VR g' v q→R v g'.w)
  (hR:¬ flatV q=true→∀ g' v,g'.H=freeze g.H is→WR g'→Ext g g'→VR g' v q→R v g'.w):Goes E.P f vs.toArray g.w R:=by
 have hWF:=wr_frozen hW is
 have heF:=ext_frozen hW is
 obtain ⟨hcs,hno⟩:=expAs_sound hW ha hx (sees_frozen g is)
 let g0:G:=⟨g.w,(g.frozen is).Z,fun _=>none,Heap.empty⟩
 have hW0:WR g0:=by
  refine ⟨fun _ _=>rfl,?_,?_,?_,?_,?_,hWF.zlt⟩
  ·intro r b h; simp [g0] at h
  ·intro r cs h; simp [g0,Heap.empty] at h
  ·intro r k xs own h; simp [g0,Heap.empty] at h
  ·intro r r' b h; simp [g0,Heap.empty,isOwn] at h
  ·intro r b h; simp [g0,Heap.empty,isOwn] at h
 have hno0:∀ b,¬ Own g0 b:=by rintro b ⟨r,h,_⟩; simp [g0,Heap.empty,isOwn] at h
 have hcs0:Cs g0 vs as:=⟨hcs.1,fun i c p hc hp=>VR.noids (g:=g.frozen is) (g':=g0) (fun b hb=>⟨hb,rfl⟩) (hcs.2 i c p hc hp) (hno p (List.mem_of_getElem? hp))⟩
 refine body_sound hev hc (g:=g0) hW0 (hI.same g g0 rfl (fun b hb=>.inl hb) hinv) rfl hcs0 h hp ?_
 intro g1 v he1 hW1 hH1 hv1
 rw [← hH1] at hq
 obtain ⟨hvq,hnq⟩:=expV_sound hW1 hv1 hq (sees_frozen g1 is')
 have hW1F:=wr_frozen hW1 is'
 have he1F:Ext g0 (g1.frozen is'):=he1.trans (ext_frozen hW1 is')
 have hsz:g.w.heap.size≤g1.w.heap.size:=he1.sz
 have hk:∀ b,b < g.w.heap.size→g1.w.heap[b]?=g.w.heap[b]?:=fun b hb=>he1.keep b hb (hno0 b)
 by_cases hf:flatV q=true
 ·obtain ⟨w2,e2⟩:=grow_world hW g1.w (fun _=>False) hsz hk (fun b h=>h.elim) he1.out
  exact hb hf ⟨g1.w,fun b=>g.Z b∨False,g.ι,g.H⟩ v rfl w2 e2 (flat_any hvq hf)
 ·obtain ⟨w2,e2⟩:=grow_world hWF g1.w (fun b=>(g1.frozen is').Z b∧g.w.heap.size≤b) hsz hk (fun b h=>⟨h.2,hW1F.zlt b h.1⟩) he1.out
  let g2:G:=⟨g1.w,fun b=>(g.frozen is).Z b∨((g1.frozen is').Z b∧g.w.heap.size≤b),(g.frozen is).ι,(g.frozen is).H⟩
  refine hR hf g2 v rfl w2 (heF.trans e2) ?_
  refine VR.noids (g:=g1.frozen is') (g':=g2) (fun b hbz=>⟨?_,rfl⟩) hvq hnq
  rcases he1F.znew b hbz with h | h | h
  ·exact .inl h
  ·exact (hno0 b h).elim
  ·exact .inr ⟨hbz,h⟩
theorem freeze_cut {h H:Heap} {is:List Nat}:(freeze h is).cut H=freeze (h.cut H) (is.filter (· < H.n)):=Heap.ext' (by rw [freeze_n]; rfl) fun i=>by
 rw [freeze_at]
 by_cases hi:i < H.n
 ·rw [cut_at hi,cut_at hi,freeze_at]
  by_cases hm:i∈is
  ·rw [if_pos hm,if_pos (List.mem_filter.2 ⟨hm,by simpa using hi⟩)]
  ·rw [if_neg hm,if_neg (fun q=>hm (List.mem_filter.1 q).1)]
 ·rw [cut_ge hi,cut_ge hi,if_neg (fun q=>hi (by simpa using (List.mem_filter.1 q).2))]
theorem call_inl {E:Env} {Inv:G→Prop} (hE:PrimFr E) {N:Nat} (hev:EvOK E Inv N) {f:FuncId} {cf:CF} (hc:E.code f=some cf) {args:List PV} {is:List Nat} {e:Ex} {st:St} {p q:PV} {g:G} {vs:List Value} {R:Value→World→Prop} (hW:WR g) (hinv:Inv g) (ha:Cs g vs args)
  (h:ev E N f cf.body ⟨start args,g.H,[]⟩=some (e,st)) (hp:resV st cf.res=some p) (hq:expV st.h p=some (q,is)) (hbl:(st.wl.filter (· < g.H.n)).all (fun i=>(st.h.at_ i).below g.H.n)=true)
  (hb:flatV q=true→∀ g' v,g'.H=st.h.cut g.H→WR g'→Ext g g'→VR g' v q→R v g'.w)
  (hR:¬ flatV q=true→∀ g' v,g'.H=freeze (st.h.cut g.H) (is.filter (· < g.H.n))→WR g'→Ext g g'→VR g' v q→R v g'.w):Goes E.P f vs.toArray g.w R:=by
 refine body_sound hev hc (g:=g) hW hinv rfl ha h hp ?_
 intro g1 v he1 hW1 hH1 hv1
 have hfr:=((ev_frame hE N).2.2.2 _ _ _ _ _ h).1
 have hin:∀ r,r < g.H.n→∀ x∈inside (g1.H.at_ r),∀ p∈x,LtP g.H.n p:=by
  intro r hr
  rw [hH1]
  by_cases hm:r∈st.wl
  ·exact below_inside (List.all_eq_true.1 hbl r (List.mem_filter.2 ⟨hm,by simpa using hr⟩))
  ·rw [hfr.2 r hr hm]
   exact wr_inside hW r
 rw [← hH1] at hq
 obtain ⟨hvq,hnq⟩:=expV_sound hW1 hv1 hq (sees_frozen g1 is)
 by_cases hf:flatV q=true
 ·obtain ⟨w2,e2⟩:=cut_world hW hW1 he1 hin
  exact hb hf (g1.cut g) v (by show g1.H.cut g.H=_; rw [hH1]) w2 e2 (flat_any hvq hf)
 ·have he1F:=he1.trans (ext_frozen hW1 is)
  obtain ⟨w2,e2⟩:=cut_world hW (wr_frozen hW1 is) he1F (fun r hr=>by
   show ∀ x∈inside ((freeze g1.H is).at_ r),_
   rw [inside_freeze]; exact hin r hr)
  refine hR hf ((g1.frozen is).cut g) v ?_ w2 e2 (VR.noids (g:=g1.frozen is) (g':=(g1.frozen is).cut g) (fun b hbz=>⟨hbz,rfl⟩) hvq hnq)
  show (freeze g1.H is).cut g.H=_
  rw [freeze_cut,hH1]
def TabOK (E:Env):Prop:=∀ f cf,E.tab f=some cf→E.code f=some cf
theorem call_sound {E:Env} {Inv:G→Prop} (hI:InvOK Inv) (hTab:TabOK E) (hE:PrimFr E) (hP:PrimOK E Inv) {N:Nat} (hev:EvOK E Inv N):CallOK E Inv (N+1):=by
 intro caller f args r g vs R hW hinv ha h hR
 rw [evCall] at h
 split at h
 ·rename_i p hp
  exact hP.ok _ f p hp args g.H r h g vs R hW hinv rfl ha hR
 ·split at h
  ·simp at h
  ·rename_i cf hcf0
   have hcf:=hTab _ _ hcf0
   split at h
   ·split at h
    ·simp at h
    ·rename_i as is hexp
     split at h
     ·simp at h
     ·rename_i e st hev'
      split at h
      ·simp at h
      ·rename_i v is' hres
       simp only [Option.bind_eq_some_iff] at hres
       obtain ⟨p,hp,hq⟩:=hres
       split at h
       ·rename_i hflat
        simp at h; subst h
        exact call_own hI hev hcf hW hinv ha hexp hev' hp hq (fun _ g' u hH hW' he hv=>hR g' u hH hW' he hv) (fun q=>(q hflat).elim)
       ·rename_i hflat
        simp at h; subst h
        exact call_own hI hev hcf hW hinv ha hexp hev' hp hq (fun q=>(hflat q).elim) (fun _ g' u hH hW' he hv=>hR g' u hH hW' he hv)
   ·split at h
    ·simp at h
    ·rename_i e st hev'
     split at h
     ·simp at h
     ·rename_i v is hres
      simp only [Option.bind_eq_some_iff] at hres
      obtain ⟨p,hp,hq⟩:=hres
      try simp only at h
      split at h
      ·rename_i hbl
       split at h
       ·rename_i hflat
        simp at h; subst h
        exact call_inl hE hev hcf hW hinv ha hev' hp hq hbl (fun _ g' u hH hW' he hv=>hR g' u hH hW' he hv) (fun q=>(q hflat).elim)
       ·rename_i hflat
        simp at h; subst h
        exact call_inl hE hev hcf hW hinv ha hev' hp hq hbl (fun q=>(hflat q).elim) (fun _ g' u hH hW' he hv=>hR g' u hH hW' he hv)
      ·simp at h
   ·split at h
    ·simp at h
    ·rename_i e st hev'
     split at h
     ·simp at h
     ·rename_i v hp
      simp at h; subst h
      refine body_sound hev hcf (g:=g) hW hinv rfl ha hev' hp ?_
      intro g1 u he1 hW1 hH1 hv1
      refine hR g1 u ?_ hW1 he1 hv1
      simp only
      split
      ·rename_i hn
       rw [hH1]
       refine Heap.ext' hn fun i=>?_
       by_cases hi:i < g.H.n
       ·rw [cut_at hi]
       ·rw [cut_ge hi,hW.dead i (by omega),← hH1,hW1.dead i (by rw [hH1,hn]; omega)]
      ·exact hH1
end Go.Evl

namespace Go.Evl
open Go
theorem cOs_sound {g:G} {a:Act} {σ:Tm} (hT:TR g a.tmps σ):∀ {xs:List Operand} {os:List O},cOs xs=some os→Cs g (xs.map a.eval) (os.map (evO σ))
 | [],os,h=>by simp [cOs] at h; subst h; exact Cs.nil g
 | x::xs,os,h=>by
   simp only [cOs] at h
   split at h
   ·rename_i o os' h1 h2
    simp at h; subst h
    exact Cs.cons (eval_sound hT h1) (cOs_sound hT h2)
   ·simp at h
theorem cOp_call {P:Program} {o:Oper} {go:O} {xs:List O} (h:cOp P o=some (.call go xs)):∃ c gx,o.op = .call c∧c.callee = .value gx∧cO gx=some go∧cOs c.args.toList=some xs:=by
 cases hop:o.op with
 | call c =>
   obtain ⟨callee,args,argTypes⟩:=c
   cases callee with
   | value gx =>
     simp only [cOp,hop,Option.bind_eq_bind,Option.bind_eq_some_iff,Option.some.injEq,COp.call.injEq] at h
     obtain ⟨o1,h1,xs1,h2,rfl,rfl⟩:=h
     exact ⟨_,gx,rfl,rfl,h1,h2⟩
   | builtin b =>
     exfalso
     simp only [cOp,hop] at h
     repeat' split at h
     all_goals (try simp [Option.bind_eq_some_iff,Option.map_eq_some_iff,Option.ite_none_right_eq_some] at h)
   | _=>simp [cOp,hop] at h
 | _ =>
   exfalso
   simp only [cOp,hop] at h
   repeat' split at h
   all_goals (try simp [Option.bind_eq_some_iff,Option.map_eq_some_iff,Option.ite_none_right_eq_some] at h)
   all_goals (try (obtain ⟨_,_,h⟩:=h))
   all_goals (repeat' split at h)
   all_goals (try simp [Option.bind_eq_some_iff,Option.map_eq_some_iff,Option.ite_none_right_eq_some] at h)
   all_goals (rename_i hh; exact absurd hh (by simp))
theorem goes_wp {P:Program} {o:Oper} {a:Act} {f:FuncId} {args:Array Value} {w:World} {next:Act→World→Prop} {Q:Exit→Act→World→Prop} (h:Goes P f args w fun v w'=>next (a.put o.dst v) w') (he:(execOp a.eval o).run P w=(callFunc f args).run P w):o.wp P a w next Q:=by
 unfold Oper.wp
 rw [he]
 unfold Goes at h
 split at h
 ·rename_i f' as w' hr
  rw [hr]
  refine Calls.mono h fun e w'' he=>?_
  cases e with
  | returned v=>exact he
  | panicked c=>exact he.elim
  | outgrown=>exact he.elim
 ·rename_i v w' hr
  rw [hr]; exact h
 ·exact h.elim
theorem op_sound {E:Env} {Inv:G→Prop} {N:Nat} (hc:CallOK E Inv N) (f:FuncId):OpOK E Inv (N+1) f:=by
 intro g a σ o co slot r next Q hW hinv hT hco hs h hR
 have plainOp:pop E.P σ g.H slot co=some r→o.wp E.P a g.w next Q:=by
  intro hp
  obtain ⟨nx,v,g',h1,h2,h3,h4,h5,h6⟩:=pop_sound hW hT hco hs hp
  unfold Oper.wp
  rw [h1]
  rcases h2 with rfl | ⟨rfl,rfl⟩
  ·exact hR g' v h3 h4 h5 h6
  ·exact hR g' undef h3 h4 h5 h6
 cases co with
 | call go xs =>
   obtain ⟨c,gx,hop,hcal,hg,hxs⟩:=cOp_call hco
   simp only [evOp] at h
   split at h
   ·rename_i f' caps hfn
    have hv:=eval_sound hT hg
    rw [hfn] at hv
    obtain ⟨cs,hve,hcs⟩:=hv.inv_fn
    have hargs:=(cOs_sound hT hxs).append hcs
    refine goes_wp (f:=f') (args:=(c.args.toList.map a.eval++cs).toArray) (hc f f' _ r g _ _ hW hinv hargs h fun g' v hH hW' he hv=>hR g' v hH hW' he hv) ?_
    have:(c.args.toList.map a.eval++cs).toArray=c.args.map a.eval++cs.toArray:=by
     apply Array.ext'; simp
    rw [this]
    simp only [execOp,hop,resolve,hcal,hve,Deferred.ofValue,Sem.run_bind,Sem.run_pure,Result.andThen_ok,invoke,Array.empty_append]
   ·simp at h
 | _=>simp only [evOp] at h; exact plainOp h
end Go.Evl

namespace Go.Evl
open Go
theorem reg_sound {E:Env} {Inv:G→Prop} (hI:InvOK Inv) (hE:PrimFr E) (hD:PrimDd E) {N:Nat} {f:FuncId} (hop:OpOK E Inv N f) {id:Nat} {ops:Array Oper} {draw:Bool} {nt:Nat} {L:List CI} {pairs:List (Nat × Nat)} (hL:cIs E.P nt ops ops.toList=some L)
  (hd:draw=true→edgesOK ops=true∧namesOK ops L=true∧pairs=openPairs ops L) {g:G} {a:Act} {st st2:St} {log:Log} {Q:Exit→Act→World→Prop}
  (hW:WR g) (hinv:Inv g) (hH:g.H=st.h) (hT:TR g a.tmps st.σ) (hnt:nt≤a.tmps.size) (h:evOps E N f L 0 st.h.n ⟨st.σ,st.h.grow (nAlloc L),st.wl⟩ []=some (st2,log))
  (hdr:draw=true→(st2.h.n=st.h.n+nAlloc L∨gOK (rdsOf L 0) log (st.h.n+nAlloc L) pairs=true)∧ordered log pairs=true)
  (hQ:∀ g' a',Ext g g'→WR g'→g'.H=st2.h→TR g' a'.tmps st2.σ→nt≤a'.tmps.size→a'.defers=a.defers→Q .normal a' g'.w):(Code.region id ops draw).wp E.P Q a g.w:=by
 have hlen:L.length=ops.size:=by rw [(cIs_get hL).1]; simp
 have hs0:slotOf L st.h.n 0=st.h.n:=by simp [slotOf,nAlloc]
 have hdrop:L.drop 0=L:=rfl
 rw [← hs0] at h
 have hslots:∀ x,x < ops.size→∀ c,L[x]?=some c→allocs c.op=true→(st.h.grow (nAlloc L)).at_ (slotOf L st.h.n x) = .dead∧slotOf L st.h.n x < (st.h.grow (nAlloc L)).n:=by
  intro x hx c hc ha
  constructor
  ·show (if slotOf L st.h.n x < st.h.n then st.h.at_ (slotOf L st.h.n x) else .dead)=_
   rw [if_neg (by unfold slotOf; omega)]
  ·have:=slotOf_lt (s0:=st.h.n) (show x < L.length by omega) hc ha
   have h2:slotOf L st.h.n L.length=st.h.n+nAlloc L:=by simp [slotOf]
   show _ < st.h.n+nAlloc L
   omega
 cases draw with
 | false =>
   refine wp_region ?_
   have hr:=evOps_trun (N:=N) L N (Nat.le_refl _) 0 _ _ _ _ hdrop h
   rw [hlen] at hr
   have e0:(g.room (nAlloc L)).w=g.w:=rfl
   rw [← e0,List.range_eq_range']
   refine run_wp hI hE hD hop hL hr List.nodup_range' (fun x hx=>?_) (g.room (nAlloc L)) a (wr_room hW _) (hI.mono _ _ hW (ext_room hW _) hinv) ?_ (hT.mono hW (ext_room hW _)) hnt (fun x hx=>hslots x ?_) Q ?_
   ·rw [List.mem_range'_1] at hx; omega
   ·show g.H.grow _=st.h.grow _; rw [hH]
   ·rw [List.mem_range'_1] at hx; omega
   ·intro g' a' he hW' hH' hT' hn' hd'
    exact hQ g' a' ((ext_room hW _).trans he) hW' hH' hT' hn' hd'
 | true =>
   obtain ⟨d1,d2,d3⟩:=hd rfl
   obtain ⟨d4,d5⟩:=hdr rfl
   subst d3
   refine wp_region_draw fun t=>?_
   have hrun:∃ l,Region.schedule (E.P.follows .mixedOrders) ops t=l∧Run (tstep E N f L st.h.n) (fun _=>()) l (st.σ,st.h.grow (nAlloc L)) (st2.σ,st2.h)∧l.Nodup∧∀ x∈l,x < ops.size:=by
    rcases d4 with d4 | d4
    ·obtain ⟨_,hr⟩:=evOps_run hE (N:=N) (Nat.le_refl N) L N (Nat.le_refl _) 0 _ _ _ _ hdrop h (fun j _=>rfl) (by rw [d4]; rfl)
     rw [hlen] at hr
     obtain ⟨l,hl,hr',hnd,hlt⟩:=any_order hE hlen d1 d2 d5 hr (E.P.follows .mixedOrders) t
     exact ⟨l,hl,run_tstep hr',hnd,hlt⟩
    ·obtain ⟨_,hr⟩:=evOps_grun hE (N:=N) (n:=N) (n0:=st.h.n+nAlloc L) L N (Nat.le_refl _) 0 _ _ _ _ hdrop h (fun j _=>rfl) (by exact Nat.le_refl _)
     rw [hlen] at hr
     obtain ⟨l,hl,hr',hnd,hlt⟩:=any_orderG hE hlen d1 d2 d5 d4 hr (E.P.follows .mixedOrders) t
     exact ⟨l,hl,run_gstep hr',hnd,hlt⟩
   obtain ⟨l,hl,hr',hnd,hlt⟩:=hrun
   rw [hl]
   have hW1:=wr_drew hW
   have e1:=ext_drew g
   have e0:((g.drew).room (nAlloc L)).w={ g.w with drawn:=g.w.drawn+1 }:=rfl
   rw [← e0]
   refine run_wp hI hE hD hop hL hr' hnd hlt (g.drew.room (nAlloc L)) a (wr_room hW1 _) (hI.mono _ _ hW1 (ext_room hW1 _) (hI.mono _ _ hW e1 hinv)) ?_ ((hT.mono hW e1).mono hW1 (ext_room hW1 _)) hnt (fun x hx=>hslots x (hlt x hx)) Q ?_
   ·show g.H.grow _=st.h.grow _; rw [hH]
   ·intro g' a' he hW' hH' hT' hn' hd'
    exact hQ g' a' ((e1.trans (ext_room hW1 _)).trans he) hW' hH' hT' hn' hd'
def LoopOK (E:Env) (Inv:G→Prop) (N:Nat):Prop:=∀ (f:FuncId) (b:CC) (code:Code) (nt:Nat) (g:G) (a:Act) (st:St) (e:Ex) (st':St) (Q:Exit→Act→World→Prop),comp E.P nt code=some b →
  WR g→Inv g→g.H=st.h→TR g a.tmps st.σ→nt≤a.tmps.size→ev E N f (.loop b) st=some (e,st') →
  (∀ g' a',Ext g g'→WR g'→g'.H=st'.h→TR g' a'.tmps st'.σ→nt≤a'.tmps.size→a'.defers=a.defers→Q (exOf e) a' g'.w)→Code.rounds E.P code Q N a g.w
theorem loop_sound {E:Env} {Inv:G→Prop} (hI:InvOK Inv) {N:Nat} (hev:EvOK E Inv N) (hl:LoopOK E Inv N):LoopOK E Inv (N+1):=by
 intro f b code nt g a st e st' Q hc hW hinv hH hT hnt h hQ
 rw [rounds_succ]
 rw [ev] at h
 try simp only at h
 split at h
 ·rename_i st1 hr
  refine hev f b code nt g a st .normal st1 _ hc hW hinv hH hT hnt hr ?_
  intro g1 a1 he1 hW1 hH1 hT1 hn1 hd1
  exact hl f b code nt g1 a1 st1 e st' Q hc hW1 (hI.mono _ _ hW he1 hinv) hH1 hT1 hn1 h fun g2 a2 he2 hW2 hH2 hT2 hn2 hd2=>hQ g2 a2 (he1.trans he2) hW2 hH2 hT2 hn2 (hd2.trans hd1)
 ·rename_i hno
  refine hev f b code nt g a st e st' _ hc hW hinv hH hT hnt h ?_
  intro g1 a1 he1 hW1 hH1 hT1 hn1 hd1
  have:=hQ g1 a1 he1 hW1 hH1 hT1 hn1 hd1
  cases e with
  | normal=>exact (hno st' h).elim
  | exit id =>
    rw [exOf] at this ⊢
    split <;> rename_i hx
    ·rw [if_pos hx] at this; exact this
    ·rw [if_neg hx] at this; exact this
  | ret=>exact this
theorem outs_ev {E:Env}:∀ (N:Nat) (y:Nat) (f:FuncId) (c:CC) (st:St) (id:Nat) (st':St),c.outs y=true→ev E N f c st=some (.exit id,st')→id < gB∨id=y
 | 0,y,f,c,st,id,st',hc,h=>by simp [ev] at h
 | N+1,y,f,c,st,id,st',hc,h=>by
   cases c with
   | skip=>simp [ev] at h
   | ret=>simp [ev] at h
   | exit j=>simp [ev] at h; simp [CC.outs] at hc; rw [← h.1]; exact hc
   | reg draw ops pairs =>
     rw [ev] at h
     try simp only at h
     split at h
     ·split at h
      ·split at h <;> simp at h
      ·simp at h
     ·simp at h
   | seq a b =>
     simp only [CC.outs,Bool.and_eq_true] at hc
     rw [ev] at h
     try simp only at h
     split at h
     ·exact outs_ev N y f b _ id st' hc.2 h
     ·exact outs_ev N y f a _ id st' hc.1 h
   | cond o a b =>
     simp only [CC.outs,Bool.and_eq_true] at hc
     rw [ev] at h
     try simp only at h
     split at h
     ·rename_i t _
      cases t
      ·exact outs_ev N y f b _ id st' hc.2 h
      ·exact outs_ev N y f a _ id st' hc.1 h
     ·simp at h
   | block j b =>
     simp only [CC.outs] at hc
     rw [ev] at h
     try simp only at h
     split at h
     ·rename_i k st2 hr
      split at h
      ·simp at h
      ·simp at h
       have:=outs_ev N y f b _ k _ hc hr
       rw [← h.1]; exact this
     ·rename_i hno
      exact (hno id st' h).elim
   | loop b =>
     simp only [CC.outs] at hc
     rw [ev] at h
     try simp only at h
     split at h
     ·exact outs_ev N y f (.loop b) _ id st' (by simpa [CC.outs] using hc) h
     ·exact outs_ev N y f b _ id st' hc h
theorem comp_rest {P:Program} {nt l:Nat}:∀ {c:Code} {c':CC},comp P nt c=some c'→match findLabel c l with
  | none=>c'.rest l=none
  | some r=>∃ r',c'.rest l=some r'∧comp P nt r=some r':=by
 intro c
 induction c with
 | seq a b iha ihb =>
   intro c' hc
   simp only [comp] at hc
   split at hc
   ·rename_i ca cb ha hb
    simp only [Option.some.injEq] at hc; subst hc
    have a1:=iha ha
    have b1:=ihb hb
    simp only [findLabel]
    cases hfa:findLabel a l with
    | none =>
      rw [hfa] at a1
      simp only at a1 ⊢
      cases hfb:findLabel b l with
      | none=>rw [hfb] at b1; simp only [CC.rest,a1]; exact b1
      | some r =>
        rw [hfb] at b1
        obtain ⟨r',h1,h2⟩:=b1
        exact ⟨r',by simp only [CC.rest,a1]; exact h1,h2⟩
    | some r =>
      rw [hfa] at a1
      obtain ⟨r',h1,h2⟩:=a1
      exact ⟨.seq r' cb,by simp only [CC.rest,h1],by simp [comp,h2,hb]⟩
   ·simp at hc
 | label k =>
   intro c' hc
   simp [comp] at hc; subst hc
   by_cases h:k=l
   ·subst h
    simp only [findLabel,beq_self_eq_true,if_true]
    exact ⟨.skip,by simp [CC.rest],rfl⟩
   ·have hb:(k == l)=false:=by simpa using h
    simp only [findLabel,hb]
    simp [CC.rest]
    exact h
 | block id b ih =>
   intro c' hc
   simp only [comp,Option.ite_none_right_eq_some,Option.map_eq_some_iff] at hc
   obtain ⟨hid,cb,hb,rfl⟩:=hc
   simp only [findLabel]
   cases cb <;> simp [CC.rest]
   unfold gB at hid; unfold lB; omega
 | scope b ih =>
   intro c' hc
   simp only [comp] at hc
   simp only [findLabel]
   repeat' split at hc
   all_goals first | (simp only [Option.some.injEq] at hc; subst hc; rfl) | simp at hc
 | region id ops draw =>
   intro c' hc
   simp only [comp] at hc
   simp only [findLabel]
   repeat' split at hc
   all_goals first | (simp only [Option.some.injEq] at hc; subst hc; rfl) | (simp only [Option.map_eq_some_iff] at hc; obtain ⟨_,_,rfl⟩:=hc; rfl) | simp at hc
 | cond o a b iha ihb =>
   intro c' hc
   simp only [comp] at hc
   simp only [findLabel]
   repeat' split at hc
   all_goals first | (simp only [Option.some.injEq] at hc; subst hc; rfl) | simp at hc
 | loop b ih =>
   intro c' hc
   simp only [comp,Option.map_eq_some_iff] at hc
   obtain ⟨_,_,rfl⟩:=hc
   simp only [findLabel]; rfl
 | exit id =>
   intro c' hc
   simp only [comp,Option.ite_none_right_eq_some,Option.some.injEq] at hc
   obtain ⟨_,rfl⟩:=hc
   simp only [findLabel]; rfl
 | goto k =>
   intro c' hc
   simp only [comp,Option.ite_none_right_eq_some,Option.some.injEq] at hc
   obtain ⟨_,rfl⟩:=hc
   simp only [findLabel]; rfl
 | ret=>intro c' hc; simp [comp] at hc; subst hc; simp only [findLabel]; rfl
 | skip=>intro c' hc; simp [comp] at hc; subst hc; simp only [findLabel]; rfl
 | _=>intro c' hc; simp [comp] at hc
theorem comp_rest_some {P:Program} {nt l:Nat} {c:Code} {c' r':CC} (hc:comp P nt c=some c') (hr:c'.rest l=some r'):∃ r,findLabel c l=some r∧comp P nt r=some r':=by
 have h:=comp_rest (l:=l) hc
 cases hf:findLabel c l with
 | none=>rw [hf] at h; simp only at h; rw [h] at hr; cases hr
 | some r =>
   rw [hf] at h
   obtain ⟨r'',h1,h2⟩:=h
   rw [h1] at hr; cases hr
   exact ⟨r,rfl,h2⟩
def jumpTo (l:Nat) (J:Act→World→Prop) (Q:Exit→Act→World→Prop):Exit→Act→World→Prop
 | .goto l',a,w=>l'=l∧J a w
 | e,a,w=>Q e a w
theorem wp_scope_rounds {P:Program} {a:Act} {w:World} {Q:Exit→Act→World→Prop} {c rest:Code} (l:Nat) (J:Nat→Act→World→Prop) (hf:findLabel c l=some rest)
  (first:c.wp P (jumpTo l (fun a w=>∃ m,J m a w) Q) a w)
  (pass:∀ n a w,J n a w→rest.wp P (jumpTo l (fun a' w'=>∃ m,m < n∧J m a' w') Q) a w):(Code.scope c).wp P Q a w:=by
 intro b k cs
 have hg:gotoIn l (.inScope c::k)=some (.code rest::.inScope c::k):=by simp [gotoIn,hf]
 have back:∀ (n:Nat) (a:Act) (w:World),J n a w→∃ e a' w',Q e a' w'∧Arrives P (lone (b.at a (.code rest::.inScope c::k)) cs w) b k cs e a' w':=by
  intro n
  induction n using Nat.strongRecOn with
  | _ n ih =>
    intro a w hJ
    obtain ⟨e,a₁,w₁,hq,harr⟩:=pass n a w hJ b (.inScope c::k) cs
    cases e with
    | goto l' =>
      obtain ⟨rfl,m,hm,hJ'⟩:=hq
      obtain ⟨e₂,a₂,w₂,hq₂,harr₂⟩:=ih m hm a₁ w₁ hJ'
      exact ⟨e₂,a₂,w₂,hq₂,.of_steps (harr _ hg) harr₂⟩
    | normal=>exact ⟨.normal,a₁,w₁,hq,Steps.trans harr (.one step_inScope)⟩
    | exit id=>exact ⟨.exit id,a₁,w₁,hq,fun k' hk=>harr k' (by simp [exitTo,hk])⟩
    | ret=>exact ⟨_,a₁,w₁,hq,harr⟩
    | panic ch=>exact ⟨_,a₁,w₁,hq,harr⟩
    | outgrown=>exact ⟨_,a₁,w₁,hq,harr⟩
 obtain ⟨e,a₁,w₁,hq,harr⟩:=first b (.inScope c::k) cs
 cases e with
 | goto l' =>
   obtain ⟨rfl,m,hJ'⟩:=hq
   obtain ⟨e₂,a₂,w₂,hq₂,harr₂⟩:=back m a₁ w₁ hJ'
   exact ⟨e₂,a₂,w₂,hq₂,.of_steps (.head step_scope (harr _ hg)) harr₂⟩
 | normal=>exact ⟨.normal,a₁,w₁,hq,.head step_scope (Steps.trans harr (.one step_inScope))⟩
 | exit id=>exact ⟨.exit id,a₁,w₁,hq,fun k' hk=>.head step_scope (harr k' (by simp [exitTo,hk]))⟩
 | ret=>exact ⟨_,a₁,w₁,hq,.of_steps (.one step_scope) harr⟩
 | panic ch=>exact ⟨_,a₁,w₁,hq,.of_steps (.one step_scope) harr⟩
 | outgrown=>exact ⟨_,a₁,w₁,hq,.of_steps (.one step_scope) harr⟩
theorem round_ev {E:Env} {n:Nat} {f:FuncId} {l:Nat} {c:CC} {st st':St} {e:Ex} (ho:c.outs (gB+l)=true) (hl:l < gB) (h:ev E n f (.block (gB+l) (.seq c (.exit (xB+l)))) st=some (e,st')) :
  ∃ e' m,m < n∧ev E m f c st=some (e',st')∧match e' with
   | .normal=>e = .exit (xB+l)
   | .exit j=>(j=gB+l∧e = .normal)∨(j < gB∧e = .exit j)
   | .ret=>e = .ret:=by
 match n with
 | 0=>simp [ev] at h
 | 1=>simp [ev] at h
 | n+2 =>
   rw [ev] at h
   try simp only at h
   have inner:∀ r,ev E (n+1) f (.seq c (.exit (xB+l))) st=some r→∃ e',ev E n f c st=some (e',r.2)∧match e' with
     | .normal=>r.1 = .exit (xB+l)
     | e'=>r.1=e':=by
    intro r hr
    rw [ev] at hr
    try simp only at hr
    split at hr
    ·rename_i s1 h1
     cases n with
     | zero=>simp [ev] at hr
     | succ n =>
       simp [ev] at hr; subst hr
       exact ⟨.normal,h1,rfl⟩
    ·rename_i hno
     obtain ⟨e1,s1⟩:=r
     refine ⟨e1,hr,?_⟩
     cases e1 with
     | normal=>exact (hno _ hr).elim
     | exit j=>rfl
     | ret=>rfl
   split at h
   ·rename_i j s1 hr
    obtain ⟨e',h1,h2⟩:=inner _ hr
    cases e' with
    | normal =>
      simp only [Ex.exit.injEq] at h2; subst h2
      rw [if_neg (by unfold xB gB; omega)] at h
      simp at h; obtain ⟨rfl,rfl⟩:=h
      exact ⟨.normal,n,by omega,h1,rfl⟩
    | exit i =>
      simp only [Ex.exit.injEq] at h2; subst h2
      have hi:=outs_ev n _ f c st _ _ ho h1
      split at h
      ·rename_i hj
       simp at h; obtain ⟨rfl,rfl⟩:=h
       exact ⟨.exit j,n,by omega,h1,.inl ⟨hj,rfl⟩⟩
      ·rename_i hj
       simp at h; obtain ⟨rfl,rfl⟩:=h
       refine ⟨.exit j,n,by omega,h1,.inr ⟨?_,rfl⟩⟩
       rcases hi with q | q
       ·exact q
       ·exact (hj q).elim
    | ret=>simp at h2
   ·rename_i hno
    obtain ⟨e',h1,h2⟩:=inner _ h
    cases e' with
    | normal=>simp only at h2; subst h2; exact (hno _ _ h).elim
    | exit i=>simp only at h2; subst h2; exact (hno _ _ h).elim
    | ret=>simp only at h2; subst h2; exact ⟨.ret,n,by omega,h1,rfl⟩
theorem scope_sound {E:Env} {Inv:G→Prop} (hI:InvOK Inv) {N:Nat} (hev:EvOK E Inv N) {f:FuncId} {c:Code} {c' r':CC} {l nt:Nat} (hc:comp E.P nt c=some c') (hr:c'.rest l=some r') (hl:l < gB) (o1:c'.outs (gB+l)=true) (o2:r'.outs (gB+l)=true)
  {g:G} {a:Act} {st:St} {e:Ex} {st':St} {Q:Exit→Act→World→Prop} (hW:WR g) (hinv:Inv g) (hH:g.H=st.h) (hT:TR g a.tmps st.σ) (hnt:nt≤a.tmps.size) (h:ev E (N+1) f (scopeC l c' r') st=some (e,st'))
  (hQ:∀ g' a',Ext g g'→WR g'→g'.H=st'.h→TR g' a'.tmps st'.σ→nt≤a'.tmps.size→a'.defers=a.defers→Q (exOf e) a' g'.w):(Code.scope c).wp E.P Q a g.w:=by
 obtain ⟨r,hfl,hcr⟩:=comp_rest_some hc hr
 unfold scopeC at h
 rw [ev] at h
 try simp only at h
 have out:∃ e1,ev E N f (.seq (.block (gB+l) (.seq c' (.exit (xB+l)))) (.loop (.block (gB+l) (.seq r' (.exit (xB+l)))))) st=some (e1,st')∧((e1 = .exit (xB+l)∧e = .normal)∨(e1≠.exit (xB+l)∧e=e1)):=by
  split at h
  ·rename_i j s1 hs
   split at h
   ·rename_i hj
    simp at h; obtain ⟨rfl,rfl⟩:=h
    exact ⟨_,hs,.inl ⟨by rw [hj],rfl⟩⟩
   ·rename_i hj
    simp at h; obtain ⟨rfl,rfl⟩:=h
    exact ⟨_,hs,.inr ⟨by simpa using hj,rfl⟩⟩
  ·rename_i hno
   refine ⟨e,h,.inr ⟨fun q=>hno _ _ (by rw [h,q]),rfl⟩⟩
 obtain ⟨e1,h1,hee⟩:=out
 have fin:∀ (e2:Ex) (g2:G) (a2:Act),(match e2 with | .normal=>e1 = .exit (xB+l) | .exit j=>j < gB∧e1 = .exit j | .ret=>e1 = .ret)→Ext g g2→WR g2→g2.H=st'.h→TR g2 a2.tmps st'.σ→nt≤a2.tmps.size→a2.defers=a.defers→∀ J,jumpTo l J Q (exOf e2) a2 g2.w:=by
  intro e2 g2 a2 hm he2 hW2 hH2 hT2 hn2 hd2 J
  have hq:=hQ g2 a2 he2 hW2 hH2 hT2 hn2 hd2
  cases e2 with
  | normal =>
    rcases hee with ⟨_,rfl⟩ | ⟨x,_⟩
    ·exact hq
    ·exact (x hm).elim
  | exit j =>
    obtain ⟨hj,hm⟩:=hm
    rcases hee with ⟨x,_⟩ | ⟨_,rfl⟩
    ·rw [hm] at x; simp only [Ex.exit.injEq] at x; unfold xB at x; unfold gB at hj; omega
    ·rw [hm] at hq
     rw [exOf,if_pos hj] at hq ⊢
     exact hq
  | ret =>
    rcases hee with ⟨x,_⟩ | ⟨_,rfl⟩
    ·rw [hm] at x; cases x
    ·rw [hm] at hq; exact hq
 cases N with
 | zero=>simp [ev] at h1
 | succ N =>
 rw [ev] at h1
 try simp only at h1
 let J:Nat→Act→World→Prop:=fun n a2 w2=>n≤N∧∃ g2 s2,g2.w=w2∧Ext g g2∧WR g2∧Inv g2∧g2.H=s2.h∧TR g2 a2.tmps s2.σ∧nt≤a2.tmps.size∧a2.defers=a.defers∧ev E n f (.loop (.block (gB+l) (.seq r' (.exit (xB+l))))) s2=some (e1,st')
 have jump:∀ {n:Nat} {g2:G} {a2:Act} {s2:St} {J':Act→World→Prop},J' a2 g2.w→jumpTo l J' Q (exOf (.exit (gB+l))) a2 g2.w:=by
  intro n g2 a2 s2 J' hj
  rw [exOf,if_neg (by omega),Nat.add_sub_cancel_left]
  exact ⟨rfl,hj⟩
 refine wp_scope_rounds l J hfl ?_ ?_
 ·-- the first round
  split at h1
  ·rename_i s1 hs
   obtain ⟨e2,m,hm,h2,h3⟩:=round_ev o1 hl hs
   refine hev f c' c nt g a st e2 s1 _ hc hW hinv hH hT hnt (ev_more (by omega) h2) ?_
   intro g2 a2 he2 hW2 hH2 hT2 hn2 hd2
   cases e2 with
   | normal=>simp at h3
   | ret=>simp at h3
   | exit j =>
     rcases h3 with ⟨rfl,_⟩ | ⟨_,x⟩
     ·exact jump (n:=0) (s2:=s1) ⟨N,Nat.le_refl _,g2,s1,rfl,he2,hW2,hI.mono _ _ hW he2 hinv,hH2,hT2,hn2,hd2,h1⟩
     ·cases x
  ·rename_i hno
   obtain ⟨e2,m,hm,h2,h3⟩:=round_ev o1 hl h1
   refine hev f c' c nt g a st e2 st' _ hc hW hinv hH hT hnt (ev_more (by omega) h2) ?_
   intro g2 a2 he2 hW2 hH2 hT2 hn2 hd2
   cases e2 with
   | normal=>exact fin .normal g2 a2 h3 he2 hW2 hH2 hT2 hn2 hd2 _
   | ret=>exact fin .ret g2 a2 h3 he2 hW2 hH2 hT2 hn2 hd2 _
   | exit j =>
     rcases h3 with ⟨_,x⟩ | x
     ·subst x; exact (hno _ h1).elim
     ·exact fin (.exit j) g2 a2 x he2 hW2 hH2 hT2 hn2 hd2 _
 ·rintro n a2 w2 ⟨hn,g2,s2,rfl,he2,hW2,hinv2,hH2,hT2,hn2,hd2,hl2⟩
  cases n with
  | zero=>simp [ev] at hl2
  | succ n =>
    rw [ev] at hl2
    try simp only at hl2
    split at hl2
    ·rename_i s3 hs
     obtain ⟨e3,m,hm,h2,h3⟩:=round_ev o2 hl hs
     refine hev f r' r nt g2 a2 s2 e3 s3 _ hcr hW2 hinv2 hH2 hT2 hn2 (ev_more (by omega) h2) ?_
     intro g3 a3 he3 hW3 hH3 hT3 hn3 hd3
     cases e3 with
     | normal=>simp at h3
     | ret=>simp at h3
     | exit j =>
       rcases h3 with ⟨rfl,_⟩ | ⟨_,x⟩
       ·exact jump (n:=0) (s2:=s3) ⟨n,Nat.lt_succ_self n,by omega,g3,s3,rfl,he2.trans he3,hW3,hI.mono _ _ hW2 he3 hinv2,hH3,hT3,hn3,hd3.trans hd2,hl2⟩
       ·cases x
    ·rename_i hno
     obtain ⟨e3,m,hm,h2,h3⟩:=round_ev o2 hl hl2
     refine hev f r' r nt g2 a2 s2 e3 st' _ hcr hW2 hinv2 hH2 hT2 hn2 (ev_more (by omega) h2) ?_
     intro g3 a3 he3 hW3 hH3 hT3 hn3 hd3
     cases e3 with
     | normal=>exact fin .normal g3 a3 h3 (he2.trans he3) hW3 hH3 hT3 hn3 (hd3.trans hd2) _
     | ret=>exact fin .ret g3 a3 h3 (he2.trans he3) hW3 hH3 hT3 hn3 (hd3.trans hd2) _
     | exit j =>
       rcases h3 with ⟨_,x⟩ | x
       ·subst x; exact (hno _ hl2).elim
       ·exact fin (.exit j) g3 a3 x (he2.trans he3) hW3 hH3 hT3 hn3 (hd3.trans hd2) _
theorem ev_step {E:Env} {Inv:G→Prop} (hI:InvOK Inv) (hE:PrimFr E) (hD:PrimDd E) {N:Nat} (hev:EvOK E Inv N) (hl:LoopOK E Inv (N+1)) (hop:∀ f,OpOK E Inv N f):EvOK E Inv (N+1):=by
 intro f c code nt g a st e st' Q hc hW hinv hH hT hnt h hQ
 cases code with
 | skip =>
   simp [comp] at hc; subst hc
   simp [ev] at h; obtain ⟨rfl,rfl⟩:=h
   exact wp_skip (hQ g a (Ext.refl g) hW hH hT hnt rfl)
 | label l =>
   simp [comp] at hc; subst hc
   cases N with
   | zero=>simp [ev] at h
   | succ N =>
     simp [ev] at h; obtain ⟨rfl,rfl⟩:=h
     exact wp_label (hQ g a (Ext.refl g) hW hH hT hnt rfl)
 | goto l =>
   simp [comp] at hc; obtain ⟨hl,rfl⟩:=hc
   simp [ev] at h; obtain ⟨rfl,rfl⟩:=h
   have:=hQ g a (Ext.refl g) hW hH hT hnt rfl
   rw [exOf,if_neg (by omega),Nat.add_sub_cancel_left] at this
   exact wp_goto this
 | scope c =>
   simp only [comp] at hc
   split at hc
   ·rename_i c' hc'
    split at hc
    ·rename_i l hl0
     split at hc
     ·rename_i r' hr'
      split at hc
      ·rename_i hk
       simp only [Option.some.injEq] at hc; subst hc
       exact scope_sound hI hev hc' hr' hk.1 hk.2.1 hk.2.2 hW hinv hH hT hnt h hQ
      ·simp at hc
     ·simp at hc
    ·simp at hc
   ·simp at hc
 | exit id =>
   simp [comp] at hc; obtain ⟨hl,rfl⟩:=hc
   simp [ev] at h; obtain ⟨rfl,rfl⟩:=h
   have:=hQ g a (Ext.refl g) hW hH hT hnt rfl
   rw [exOf,if_pos hl] at this
   exact wp_exit this
 | ret =>
   simp [comp] at hc; subst hc
   simp [ev] at h; obtain ⟨rfl,rfl⟩:=h
   exact wp_ret (hQ g a (Ext.refl g) hW hH hT hnt rfl)
 | region id ops draw =>
   simp only [comp] at hc
   split at hc
   ·rename_i hdraw
    split at hc
    ·rename_i L hL
     split at hc
     ·rename_i hok
      simp at hc; subst hc
      simp only [Bool.and_eq_true] at hok
      rw [ev] at h
      try simp only at h
      split at h
      ·rename_i st2 log hr
       rw [if_pos trivial] at h
       split at h
       ·rename_i hcond
        simp at h; obtain ⟨rfl,rfl⟩:=h
        subst hdraw
        exact reg_sound hI hE hD (hop f) hL (fun _=>⟨hok.1,hok.2,rfl⟩) hW hinv hH hT hnt hr (fun _=>hcond) hQ
       ·simp at h
      ·simp at h
     ·simp at hc
    ·simp at hc
   ·rename_i hdraw
    simp only [Option.map_eq_some_iff] at hc
    obtain ⟨L,hL,rfl⟩:=hc
    rw [ev] at h
    try simp only at h
    split at h
    ·rename_i st2 log hr
     simp at h; obtain ⟨rfl,rfl⟩:=h
     exact reg_sound hI hE hD (hop f) (pairs:=[]) hL (fun q=>(hdraw q).elim) hW hinv hH hT hnt hr (fun q=>(hdraw q).elim) hQ
    ·simp at h
 | seq x y =>
   simp only [comp] at hc
   split at hc
   ·rename_i cx cy hx hy
    simp at hc; subst hc
    refine wp_seq ?_
    rw [ev] at h
    try simp only at h
    split at h
    ·rename_i st1 hr
     refine hev f cx x nt g a st .normal st1 _ hx hW hinv hH hT hnt hr ?_
     intro g1 a1 he1 hW1 hH1 hT1 hn1 hd1
     exact hev f cy y nt g1 a1 st1 e st' Q hy hW1 (hI.mono _ _ hW he1 hinv) hH1 hT1 hn1 h fun g2 a2 he2 hW2 hH2 hT2 hn2 hd2=>hQ g2 a2 (he1.trans he2) hW2 hH2 hT2 hn2 (hd2.trans hd1)
    ·rename_i hno
     refine hev f cx x nt g a st e st' _ hx hW hinv hH hT hnt h ?_
     intro g1 a1 he1 hW1 hH1 hT1 hn1 hd1
     have:=hQ g1 a1 he1 hW1 hH1 hT1 hn1 hd1
     cases e with
     | normal=>exact (hno st' h).elim
     | exit id =>
       rw [exOf] at this ⊢
       split <;> rename_i hx
       ·rw [if_pos hx] at this; exact this
       ·rw [if_neg hx] at this; exact this
     | ret=>exact this
   ·simp at hc
 | cond o x y =>
   simp only [comp] at hc
   split at hc
   ·rename_i co cx cy ho hx hy
    simp at hc; subst hc
    rw [ev] at h
    try simp only at h
    split at h
    ·rename_i t ht
     have hv:=eval_sound hT ho
     rw [ht] at hv
     refine wp_cond hv.inv_val ?_
     cases t
     ·exact hev f cy y nt g a st e st' Q hy hW hinv hH hT hnt h hQ
     ·exact hev f cx x nt g a st e st' Q hx hW hinv hH hT hnt h hQ
    ·simp at h
   ·simp at hc
 | block id b =>
   simp only [comp,Option.map_eq_some_iff,Option.ite_none_right_eq_some] at hc
   obtain ⟨hid,cb,hb,rfl⟩:=hc
   refine wp_block ?_
   rw [ev] at h
   try simp only at h
   split at h
   ·rename_i j st1 hr
    refine hev f cb b nt g a st (.exit j) st1 _ hb hW hinv hH hT hnt hr ?_
    intro g1 a1 he1 hW1 hH1 hT1 hn1 hd1
    split at h
    ·rename_i hj
     simp at h; obtain ⟨rfl,rfl⟩:=h
     rw [exOf,if_pos (by omega)]
     show (if j=id then Q .normal a1 g1.w else Q (.exit j) a1 g1.w)
     rw [if_pos hj]
     exact hQ g1 a1 he1 hW1 hH1 hT1 hn1 hd1
    ·rename_i hj
     simp at h; obtain ⟨rfl,rfl⟩:=h
     have hq:=hQ g1 a1 he1 hW1 hH1 hT1 hn1 hd1
     rw [exOf] at hq ⊢
     split
     ·rename_i hjg
      rw [if_pos hjg] at hq
      show (if j=id then Q .normal a1 g1.w else Q (.exit j) a1 g1.w)
      rw [if_neg hj]
      exact hq
     ·rename_i hjg
      rw [if_neg hjg] at hq
      exact hq
   ·rename_i hno
    refine hev f cb b nt g a st e st' _ hb hW hinv hH hT hnt h ?_
    intro g1 a1 he1 hW1 hH1 hT1 hn1 hd1
    have:=hQ g1 a1 he1 hW1 hH1 hT1 hn1 hd1
    cases e with
    | normal=>exact this
    | exit id=>exact (hno id st' h).elim
    | ret=>exact this
 | loop b =>
   simp only [comp,Option.map_eq_some_iff] at hc
   obtain ⟨cb,hb,rfl⟩:=hc
   exact wp_loop_rounds (N+1) (hl f cb b nt g a st e st' Q hb hW hinv hH hT hnt h hQ)
 | _=>simp [comp] at hc
theorem ev_sound {E:Env} {Inv:G→Prop} (hI:InvOK Inv) (hTab:TabOK E) (hE:PrimFr E) (hD:PrimDd E) (hP:PrimOK E Inv):∀ N,EvOK E Inv N∧LoopOK E Inv N∧CallOK E Inv N∧∀ f,OpOK E Inv N f:=by
 intro N
 induction N with
 | zero =>
   refine ⟨?_,?_,?_,?_⟩
   ·intro f c code nt g a st e st' Q hc hW hinv hH hT hnt h; simp [ev] at h
   ·intro f c code nt g a st e st' Q hc hW hinv hH hT hnt h; simp [ev] at h
   ·intro caller f args r g vs R hW hinv ha h; simp [evCall] at h
   ·intro f g a σ o co slot r next Q hW hinv hT hco hs h; simp [evOp] at h
 | succ N ih =>
   obtain ⟨i1,i2,i3,i4⟩:=ih
   have hl:=loop_sound hI i1 i2
   exact ⟨ev_step hI hE hD i1 hl i4,hl,call_sound hI hTab hE hP i1,op_sound i3⟩
theorem evl_goes {E:Env} {Inv:G→Prop} (hI:InvOK Inv) (hTab:TabOK E) (hE:PrimFr E) (hD:PrimDd E) (hP:PrimOK E Inv) {N:Nat} {f:FuncId} {cf:CF} (hc:E.code f=some cf) {g:G} {vs:List Value} {args:List PV} {e:Ex} {st:St} {p:PV} {R:Value→World→Prop} (hW:WR g) (hinv:Inv g) (ha:Cs g vs args)
  (h:ev E N f cf.body ⟨start args,g.H,[]⟩=some (e,st)) (hp:resV st cf.res=some p) (hR:∀ g' v,Ext g g'→WR g'→g'.H=st.h→VR g' v p→R v g'.w):Goes E.P f vs.toArray g.w R :=
 body_sound (ev_sound hI hTab hE hD hP N).1 hc hW hinv rfl ha h hp hR
end Go.Evl
