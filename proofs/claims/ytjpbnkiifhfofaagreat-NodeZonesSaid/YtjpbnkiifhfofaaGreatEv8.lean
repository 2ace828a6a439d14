/- The evaluator's texts CN29 to CN31, joined. -/
import Derived.Test.YtjpbnkiifhfofaaGreatEv7
set_option maxHeartbeats 1000000
set_option linter.all false
set_option linter.deprecated false
set_option linter.unusedVariables false
set_option linter.unusedSimpArgs false
set_option linter.unnecessarySimpa false
namespace Go.Evl.Zone
open Go Go.Evl Go.Evl.Fl
variable {P:Program}
theorem ldP {l:List NS} {rP i:Nat} (h:i < l.length):loadR (.row 13 (l.map cP) true) rP 13 l.length i 0 13=some (cP (atN l i),[rP]):=loadN cP_len rfl h
section
variable {ops:List NOp} {p rP rR:Nat} {l:List NS} {U:List Bytes}
end
end Go.Evl.Zone

set_option maxRecDepth 100000
namespace Go.Evl.Zone
open Go Go.Evl Go.Evl.Fl
variable {P:Program}
theorem pitem_self (T:TI P) {cx cy:Bool} {a:Item} (hs:a.sm):evBin P .neq 75 cx cy (.agg (itP a)) (.agg (itP a))=some (bv false):=by
 have h3:=T.t3
 have h4:=T.t4
 have h9:=T.t9
 have hx:Is (FloatKind.f64.nearest a.x) a.x:=Is.nearest (lt53 (by have:=hs.1; unfold smI at this; omega))
 have hy:Is (FloatKind.f64.nearest a.y) a.y:=Is.nearest (lt53 (by have:=hs.2; unfold smI at this; omega))
 have h:=(sty_eql (cx:=cx) (cy:=cy) (xs:=itP a) (ys:=itP a) (vs:=[.int .i64 a.key,.string ⟨a.id.toArray⟩,.int .i64 a.seq,.int .i64 a.stamp,.bool a.dead,.complex .f64 (FloatKind.f64.nearest a.x) (FloatKind.f64.nearest a.y),.string ⟨a.text.toArray⟩,.bool a.held]) (us:=[.int .i64 a.key,.string ⟨a.id.toArray⟩,.int .i64 a.seq,.int .i64 a.stamp,.bool a.dead,.complex .f64 (FloatKind.f64.nearest a.x) (FloatKind.f64.nearest a.y),.string ⟨a.text.toArray⟩,.bool a.held]) T.item
  (fun p=>true) rfl rfl (by
  intro p hp
  simp only [List.mem_cons,List.not_mem_nil,or_false] at hp
  rcases hp with rfl | rfl | rfl | rfl | rfl | rfl
  ·exact ⟨_,_,pureRun_part h3 rfl rfl,pureRun_part h3 rfl rfl,(pureRun_equal_int (d:=9998) h3).trans (by simp)⟩
  ·exact ⟨_,_,sty_part T.ver T.verS,sty_part T.ver T.verS,(ver2_eq T.ver T.tid h3 9997 a a).trans (by simp)⟩
  ·exact ⟨_,_,pureRun_part h4 rfl rfl,pureRun_part h4 rfl rfl,(pureRun_equal_bool (d:=9998) h4).trans (by simp)⟩
  ·exact ⟨_,_,pureRun_part T.t33 rfl rfl,pureRun_part T.t33 rfl rfl,(pureRun_equal_complex (d:=9998) T.t33).trans (by rw [floatEq_is hx hx,floatEq_is hy hy]; simp)⟩
  ·exact ⟨_,_,pureRun_part h9 rfl rfl,pureRun_part h9 rfl rfl,(pureRun_equal_string (d:=9998) h9).trans (by rw [ba_beq]; simp)⟩
  ·exact ⟨_,_,pureRun_part h4 rfl rfl,pureRun_part h4 rfl rfl,(pureRun_equal_bool (d:=9998) h4).trans (by simp)⟩)).2
 rw [h]
 simp
theorem cP_1 (s:NS):List.take 1 (cP s).tail=[iv s.how]:=rfl
theorem cP_8 (s:NS):List.take 1 (List.drop 8 (cP s))=[lvP s.store]:=rfl
theorem key32_of {k:Int} (h:k∈keys32):¬ (k < 0∨31 < k):=by
 simp only [keys32,List.mem_map,List.mem_range] at h
 obtain ⟨n,hn,rfl⟩:=h
 omega
section
variable {ops:List NOp} {p rP rR:Nat} {l:List NS} {U:List Bytes}
theorem zones_loop (T:TB P) (C:NCB P) {x1:PV} {ks:List Fr'} {K:Ex→St→Prop}:∀ (rest:List NOp) (i:Nat) (l:List NS) (st:St),ops.drop i=rest→i≤ops.length→i≤25→DI st.h p i l→st.σ 0 = .im (opsV ops) false→st.σ 5 = .ptr p 0→st.σ 6=iv i→st.σ 1=x1 →
  (∀ st' i l,DI st'.h p i l→i≤25→st'.σ 5 = .ptr p 0→st'.σ 1=x1→VN (env P) 5 st' ks K)→(∀ st',st'.σ 4=bv true→K .ret st')→V (env P) 5 (.loop L5_0) st (.blk 0::ks) K
 | [],i,l,st,hr,hile,hi,hD,h0,h3,h4,hx1,hend,hret=>by
   obtain ⟨hii,hlt,hd⟩:=drop_nil hr hile
   rw [V_loop]
   simp [L5_0,h0,h4,hlt]
   exact hend _ i l (by repeat (first | exact hD | refine DI.grow ?_)) hi (by simp [h3]) (by simp [hx1])
 | o::rest,i,l,st,hr,hile,hi,hD,h0,h3,h4,hx1,hend,hret=>by
   obtain ⟨hq,hlt,hr',_⟩:=drop_cons hr
   have hc:=opsV_at hq
   have hw:=wrapS (i:=i) (by omega)
   have kf:=few11_ans (P:=P) (o:=o)
   have kt:=C.told
   rw [V_loop]
   by_cases h40:(i:Int) < 25
   ·cases hf:fewO o with
    | false =>
      rw [hf] at kf
      simp only [opC] at kf
      simp [L5_0,h0,h3,h4,hlt,h40,hc,kf,kt]
      exact hret _ (by simp)
    | true =>
      rw [hf] at kf
      simp only [opC] at kf
      simp [L5_0,h0,h3,h4,hlt,h40,hc,kf]
      refine VA_keep rfl rfl (do_KC (p:=p) (n:=i) (l:=l) T (by repeat (first | exact hD | refine DI.grow ?_)) (by omega) hf fun H' wl hD' _=>?_)
      simp [h0,h3,h4,hw]
      exact zones_loop T C rest (i+1) (doS l o) _ hr' (by omega) (by omega) (by repeat (first | exact hD' | refine DI.grow ?_)) (by simp [h0]) (by simp [h3]) (by simp) (by simp [hx1]) hend hret
   ·simp [L5_0,h0,h4,hlt,h40]
    exact hend _ i l (by repeat (first | exact hD | refine DI.grow ?_)) hi (by simp [h3]) (by simp [hx1])
structure AtZn (a b:Nat) (s t:NS) (z:List RS) (st:St):Prop where
 s1:st.σ 1 = .im (rsV z) false
 s7:st.σ 7 = .ptr a 0
 s8:st.σ 8 = .ptr b 0
 ba:st.h.at_ a = .box (cP s)
 bb:st.h.at_ b = .box (cP t)
 na:a < st.h.n
 nb:b < st.h.n
theorem AtZn.grow {a b m:Nat} {s t:NS} {z:List RS} {σ:Tm} {h:Heap} {wl wl':List Nat} (h1:AtZn a b s t z ⟨σ,h,wl⟩):AtZn a b s t z ⟨σ,h.grow m,wl'⟩ :=
 ⟨h1.s1,h1.s7,h1.s8,by have:=h1.na; have:=h1.ba; simp_all,by have:=h1.nb; have:=h1.bb; simp_all,by have:=h1.na; simp_all; omega,by have:=h1.nb; simp_all; omega⟩
theorem readZ {t:NS} (h0:t.how=0) (hs:Srt cmpI Item.key t.store) {q:Item} (hq:q∈t.store) (hk:q.key∈keys32) :
  readS t q.key=if q.dead=true then ([],11) else if zoneHas (toSI t.zone) q.x q.y=false then ([],12) else if q.held=false then ([],13) else (q.text,0):=by
 have hg:getA Item.key t.store q.key=some q:=(get_iff cmpI_ok hs).2 ⟨hq,rfl⟩
 have hk':=key32_of hk
 unfold readS thereS
 rw [if_neg (by omega),if_neg hk',hg]
 cases hd:q.dead <;> simp [hd]
theorem zones1_loop (T:TB P) {a b:Nat} {s t:NS} {z:List RS} (hst:t.store=s.store) (hz:t.zone=fix z) (h0:t.how=0) (hw:WN U t) {ks:List Fr'} {K:Ex→St→Prop}:∀ (rest:List Item) (i:Nat) (st:St),s.store.drop i=rest→i≤s.store.length→AtZn a b s t z st→st.σ 10=iv i →
  (∀ st',VN (env P) 5 st' ks K)→V (env P) 5 (.loop L5_1) st (.blk 2::ks) K
 | [],i,st,hr,hi,hS,h10,hend=>by
   obtain ⟨hii,hlt,hd⟩:=drop_nil hr hi
   obtain ⟨s1,s7,s8,ba,bb,na,nb⟩:=hS
   have c8:=cP_8 t
   rw [hst] at c8
   simp only [lvP] at c8
   rw [V_loop]
   simp [L5_1,s8,bb,nb,c8,h10,hlt]
   exact hend _
 | q::rest,i,st,hr,hi,hS,h10,hend=>by
   obtain ⟨hq,hlt,hr',ht⟩:=drop_cons hr
   obtain ⟨s1,s7,s8,ba,bb,na,nb⟩:=hS
   have hmq:q∈s.store:=List.mem_of_getElem? hq
   have hmt:q∈t.store:=by rw [hst]; exact hmq
   have hsl:=hw.sl
   rw [hst] at hsl
   have hsm:=hw.storeS q hmt
   have c8:=cP_8 t
   rw [hst] at c8
   have d8:=cP_8 s
   simp only [lvP] at c8 d8
   have hc:=EnP_at hq
   have T0:Typed P:=T.toTI.toTyped3.toTyped2.toTyped
   have k1:ans (env P) 28 [.agg (cP t),iv q.key]=some (.tup [sv (readS t q.key).1,iv (readS t q.key).2]):=hw.read T
   have rz:=readZ h0 hw.store hmt (hw.storeK q hmt)
   have k2:=fix_ans (P:=P) T0 (l:=z)
   have k3:=place7_ans (P:=P) T.toTI hsm
   have k4:=hw.rHas (P:=P) (x:=q.x) (y:=q.y)
   rw [hz] at k4 rz
   have k5:=fun cx cy=>pitem_self (P:=P) T.toTI (cx:=cx) (cy:=cy) hsm
   have wi:IntKind.i64.wrap ((i:Int)+1)=((i+1:Nat):Int):=by rw [wrap64_id (by omega)]; rfl
   have e1:¬ a=st.h.n:=by omega
   have e2:¬ b=st.h.n:=by omega
   have e3:a < st.h.n+1:=by omega
   have e4:b < st.h.n+1:=by omega
   have go:∀ st',AtZn a b s t z st'→st'.σ 10=iv ((i+1:Nat):Int)→V (env P) 5 (.loop L5_1) st' (.blk 2::ks) K :=
    fun st' h1 h2=>zones1_loop T hst hz h0 hw rest (i+1) st' hr' (by omega) h1 h2 hend
   simp only [itP] at hc k5
   generalize fix z=Z at k2 k4 rz
   rw [V_loop]
   cases hd:q.dead with
   | true =>
     rw [hd] at hc k5
     rw [if_pos hd] at rz
     rw [rz] at k1
     cases hzz:zoneHas (toSI Z) q.x q.y <;> rw [hzz] at k4 <;>
      simp [L5_1,s1,s7,s8,h10,ba,bb,na,nb,c8,d8,hlt,hc,e1,e2,e3,e4,k1,k2,k3,k4,k5,wi]
     all_goals exact go _ ⟨by simp [s1],by simp [s7],by simp [s8],by simp [ba,na,e1,e3],by simp [bb,nb,e2,e4],by simp; omega,by simp; omega⟩ (by simp)
   | false =>
     rw [hd] at hc k5
     rw [if_neg (by rw [hd]; decide)] at rz
     cases hzz:zoneHas (toSI Z) q.x q.y with
     | false =>
       rw [hzz] at k4
       rw [if_pos hzz] at rz
       rw [rz] at k1
       simp [L5_1,s1,s7,s8,h10,ba,bb,na,nb,c8,d8,hlt,hc,e1,e2,e3,e4,k1,k2,k3,k4,k5,wi]
       exact go _ ⟨by simp [s1],by simp [s7],by simp [s8],by simp [ba,na,e1,e3],by simp [bb,nb,e2,e4],by simp; omega,by simp; omega⟩ (by simp)
     | true =>
       rw [hzz] at k4
       rw [if_neg (by rw [hzz]; decide)] at rz
       cases hh:q.held with
       | false =>
         rw [hh] at hc k5
         rw [if_pos hh] at rz
         rw [rz] at k1
         simp [L5_1,s1,s7,s8,h10,ba,bb,na,nb,c8,d8,hlt,hc,e1,e2,e3,e4,k1,k2,k3,k4,k5,wi]
         exact go _ ⟨by simp [s1],by simp [s7],by simp [s8],by simp [ba,na,e1,e3],by simp [bb,nb,e2,e4],by simp; omega,by simp; omega⟩ (by simp)
       | true =>
         rw [hh] at hc k5
         rw [if_neg (by rw [hh]; decide)] at rz
         rw [rz] at k1
         have hn:=fun t cx cy=>evBin_sneq (P:=P) (t:=t) (cx:=cx) (cy:=cy) q.text q.text
         simp at hn
         simp [L5_1,s1,s7,s8,h10,ba,bb,na,nb,c8,d8,hlt,hc,e1,e2,e3,e4,k1,k2,k3,k4,k5,wi,hn]
         exact go _ ⟨by simp [s1],by simp [s7],by simp [s8],by simp [ba,na,e1,e3],by simp [bb,nb,e2,e4],by simp; omega,by simp; omega⟩ (by simp)
theorem cP_0b (s:NS):List.take 1 (cP s)=[sv s.id]:=rfl
theorem fix_sm (z:List RS):∀ q∈fix z,q.sm:=fun q hq=>by
 obtain ⟨a1,a2,a3,a4⟩:=(fix_right z).2.1 q hq
 simp only [near,Bool.and_eq_true,decide_eq_true_eq] at a1 a2
 unfold RS.sm smI
 omega
theorem zones_ans (T:TB P) (C:NCB P) (ops:List NOp) (z:List RS):ans (env P) 5 [.im (opsV ops) false,.im (rsV z) false]=some (bv true):=by
 have kt:=C.told
 refine ans_V rfl rfl ?_
 simp [c5]
 refine VA_keep rfl rfl (begin_KC C fun H' wl p hG _ hD=>?_)
 simp
 refine zones_loop (ops:=ops) (p:=p) T C (x1:=.im (rsV z) false) ops 0 [rootN] _ rfl (by omega) (by omega) (by repeat (first | exact hD | refine DI.grow ?_)) (by simp) (by simp) (by simp) (by simp) ?_ ?_
 ·intro st' i l hD hi h5 h1
  obtain ⟨rP,rR,hp⟩:=hD.pa
  obtain ⟨U,hU,hl,hu⟩:=hD.li
  obtain ⟨b1,b2,b3,n1,n2,n3⟩:=hp.px
  have hpos:=hl.pos
  have hle:=hl.le
  have hj:l.length - 1 < l.length:=by omega
  have hji:((l.length - 1:Nat):Int) < l.length:=by omega
  have ws:IntKind.i64.wrap ((l.length:Int) - 1)=((l.length - 1:Nat):Int):=by rw [wrap64_id (by omega)]; omega
  generalize hjj:l.length - 1=j at hj hji ws
  have hs:=hl.wn _ (atN_mem hj)
  have l1:=ldP (rP:=rP) hj
  generalize hse:atN l j=s at hs l1
  have T0:Typed P:=T.toTI.toTyped3.toTyped2.toTyped
  obtain ⟨f1,f2,f3⟩:=fix_right z
  have kf:=fix_ans (P:=P) T0 (l:=z)
  have k2:=to_ans (P:=P) T0 (l:=fix z) (by unfold most; omega)
  have e1:¬ p=st'.h.n:=by omega
  have e2:¬ rP=st'.h.n:=by omega
  have e3:¬ st'.h.n=p:=by omega
  have e4:¬ st'.h.n=rP:=by omega
  have st0:=fun {c:List PV} (h:c.length=13)=>cP_set s h
  obtain ⟨t,hte⟩:∃ t,t=(setZoneS s (fix z)).1:=⟨_,rfl⟩
  obtain ⟨e,hee⟩:∃ e,e=(setZoneS s (fix z)).2:=⟨_,rfl⟩
  have k3:ans (env P) 25 [.agg (cP s),.im (stepsV (toSI (fix z))) false]=some (.tup [.agg (cP t),iv e]):=by rw [hte,hee]; exact hs.setZone hU T (fix_sm z)
  have st1:=fun {c:List PV} (h:c.length=13)=>cP_set t h
  have c1:=cP_1 s
  have c0:=cP_0b s
  by_cases h0:s.how=0
  ·by_cases hid:s.id=[48]
   ·have he:e=14:=by rw [hee]; unfold setZoneS; rw [if_neg (by omega),if_pos hid]
    subst he
    rw [h0] at c1
    have hq:=fun t cx cy=>evBin_seql (P:=P) (t:=t) (cx:=cx) (cy:=cy) s.id [48]
    simp only [hid,decide_true] at hq
    rw [hid] at c0
    simp [h1,h5,b1,b2,b3,n1,n2,n3,hj,hji,ws,l1,e1,e2,e3,e4,st0,kf,k2,k3,st1,c1,c0,kt,hq]
   ·have hz0:setZoneS s (fix z)=(settleS { s with zone:=fix z },0):=by
     unfold setZoneS; rw [if_neg (by omega),if_neg hid,if_neg (by rw [f1]; decide)]
    have he:e=0:=by rw [hee,hz0]
    have ht0:t=settleS { s with zone:=fix z }:=by rw [hte,hz0]
    have hw:WN U t:=by rw [ht0]; exact (hs.zone0 (fix_sm z) f1).settleS
    have hts:t.store=s.store:=by rw [ht0]; rfl
    have htz:t.zone=fix z:=by rw [ht0]; rfl
    have hth:t.how=0:=by rw [ht0]; exact h0
    subst he
    rw [h0] at c1
    have hq:=fun t cx cy=>evBin_seql (P:=P) (t:=t) (cx:=cx) (cy:=cy) s.id [48]
    simp only [hid,decide_false] at hq
    have c8:=cP_8 t
    have d8:=cP_8 s
    rw [hts] at c8
    simp only [lvP] at c8 d8
    simp [h1,h5,b1,b2,b3,n1,n2,n3,hj,hji,ws,l1,e1,e2,e3,e4,st0,kf,k2,k3,st1,c1,c0,kt,hq,c8,d8]
    refine zones1_loop (a:=st'.h.n) (b:=st'.h.n+1) (s:=s) (t:=t) (z:=z) T hts htz hth hw s.store 0 _ rfl (by omega) ⟨by simp [h1],by simp,by simp,by simp,by simp,by simp,by simp⟩ (by simp) fun st2=>?_
    simp [kt]
  ·have he:e=5:=by rw [hee]; unfold setZoneS; rw [if_pos h0]
   subst he
   simp [h1,h5,b1,b2,b3,n1,n2,n3,hj,hji,ws,l1,e1,e2,e3,e4,st0,kf,k2,k3,st1,c1,c0,kt,h0]
 ·intro st' h
  simp [h]
end
end Go.Evl.Zone
