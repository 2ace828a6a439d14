/- The evaluator's texts CN29 to CN30, joined. -/
import Derived.Test.YtjpbnkiifhfofaaGreatEv7
set_option maxHeartbeats 1000000
set_option linter.all false
set_option linter.deprecated false
set_option linter.unusedVariables false
set_option linter.unusedSimpArgs false
set_option linter.unnecessarySimpa false
namespace Go.Evl.Zone
open Go Go.Evl Go.Evl.Fl
variable {P:Program}
theorem ldP {l:List NS} {rP i:Nat} (h:i < l.length):loadR (.row 13 (l.map cP) true) rP 13 l.length i 0 13=some (cP (atN l i),[rP]):=loadN cP_len rfl h
section
variable {ops:List NOp} {p rP rR:Nat} {l:List NS} {U:List Bytes}
end
end Go.Evl.Zone

namespace Go.Evl.Zone
open Go Go.Evl Go.Evl.Fl
structure Keeps (s t:NS):Prop where
 id:t.id=s.id
 kids:t.kids=s.kids
 mem:∀ a∈s.members,a∈t.members
theorem Keeps.refl (s:NS):Keeps s s:=⟨rfl,rfl,fun _ h=>h⟩
theorem Keeps.settle {s t:NS} (h:Keeps s t):Keeps s (settleS t):=⟨h.id,h.kids,h.mem⟩
theorem keeps_ev {s:NS} {x:Item}:Keeps s (evS s x).1:=by
 unfold evS
 split
 ·exact Keeps.refl s
 ·exact Keeps.settle ⟨rfl,rfl,fun _ h=>h⟩
theorem keeps_write {s:NS} {k x y:Int} {t:Bytes}:Keeps s (writeS s k x y t).1:=by
 unfold writeS
 repeat' split
 all_goals first
  | exact Keeps.refl s
  | exact keeps_ev
theorem keeps_delete {s:NS} {k:Int}:Keeps s (deleteS s k).1:=by
 unfold deleteS
 split
 all_goals first
  | exact keeps_ev
  | exact Keeps.refl s
theorem keeps_zone {s:NS} {Z:List RS}:Keeps s (setZoneS s Z).1:=by
 unfold setZoneS
 repeat' split
 all_goals first
  | exact Keeps.refl s
  | exact Keeps.settle ⟨rfl,rfl,fun _ h=>h⟩
theorem keeps_expel {s:NS} {a:Bytes}:Keeps s (expelS s a).1:=by
 unfold expelS
 repeat' split
 all_goals first
  | exact Keeps.refl s
  | exact Keeps.settle ⟨rfl,rfl,fun _ h=>h⟩
theorem keeps_retire1 {x h:NS}:Keeps x (retireS x h).1:=by
 unfold retireS
 split
 ·exact Keeps.refl x
 ·exact Keeps.settle ⟨rfl,rfl,fun _ h=>h⟩
theorem keeps_retire2 {x h:NS}:Keeps h (retireS x h).2.1:=by
 unfold retireS
 split
 ·exact Keeps.refl h
 ·refine Keeps.settle ⟨rfl,rfl,fun a ha=>?_⟩
  show a∈uniB h.members x.members
  exact mem_uniB.2 (.inl ha)
def upI (a:Bytes):Bytes:=a.take (a.length - 1)
structure NI (l:List NS):Prop where
 self:∀ s∈l,s.id∈s.members
 par:∀ s∈l,s.id≠[48]→upI s.id∈s.members
 kids:∀ s∈l,∀ k:Nat,1≤k→(k:Int)≤s.kids→kidI s.id k∈s.members
 dist:(l.map NS.id).Nodup
 kid:∀ s∈l,∀ t∈l,∀ k:Nat,1≤k→k≤9→t.id=kidI s.id k→(k:Int)≤s.kids
 up:∀ t∈l,t.id≠[48]→upI t.id∈l.map NS.id
 dep:∀ s∈l,0 < s.kids→s.id.length < 6
theorem NI.root:NI [rootN] where
 self:=by simp [rootN]
 par:=by simp [rootN]
 kids:=by simp [rootN]; omega
 dist:=by simp
 kid:=by
  intro s hs t ht k h1 h9 e
  rw [List.mem_singleton.1 hs,List.mem_singleton.1 ht] at e
  have:=congrArg List.length e
  simp [rootN,kidI] at this
 up:=by simp [rootN]
 dep:=by simp [rootN]
theorem mem_set {l:List NS} {i:Nat} {t t':NS} (h:t∈l.set i t'):t∈l∨t=t':=List.mem_or_eq_of_mem_set h
theorem map_id_set {l:List NS} {i:Nat} {t:NS} (hi:i < l.length) (e:t.id=(atN l i).id):(l.set i t).map NS.id=l.map NS.id:=by
 rw [List.map_set,e]
 have:(l.map NS.id)[i]?=some (atN l i).id:=by rw [List.getElem?_map,atN_at' hi]; rfl
 apply List.ext_getElem?
 intro j
 rw [List.getElem?_set]
 split
 ·rename_i h; subst h
  rw [this]; simp [hi]
 ·rfl
where
 atN_at' {l:List NS} {i:Nat} (h:i < l.length):l[i]?=some (atN l i):=by
  unfold atN; rw [List.getElem?_eq_getElem h]; rfl
theorem NI.of {l m:List NS} (h:NI l) (hid:m.map NS.id=l.map NS.id) (hm:∀ t∈m,∃ s∈l,Keeps s t):NI m where
 self:=fun t ht=>by
  obtain ⟨s,hs,k⟩:=hm t ht
  rw [k.id]; exact k.mem _ (h.self s hs)
 par:=fun t ht=>by
  obtain ⟨s,hs,k⟩:=hm t ht
  rw [k.id]; exact fun e=>k.mem _ (h.par s hs e)
 kids:=fun t ht j h1 h2=>by
  obtain ⟨s,hs,k⟩:=hm t ht
  rw [k.id]; exact k.mem _ (h.kids s hs j h1 (by rw [← k.kids]; exact h2))
 dist:=by rw [hid]; exact h.dist
 kid:=fun t ht u hu j h1 h2 e=>by
  obtain ⟨s,hs,k⟩:=hm t ht
  obtain ⟨v,hv,k2⟩:=hm u hu
  rw [k.id,k2.id] at e
  rw [k.kids]; exact h.kid s hs v hv j h1 h2 e
 up:=fun t ht e=>by
  obtain ⟨s,hs,k⟩:=hm t ht
  rw [k.id] at e ⊢
  rw [hid]; exact h.up s hs e
 dep:=fun t ht e=>by
  obtain ⟨s,hs,k⟩:=hm t ht
  rw [k.id]; exact h.dep s hs (by rw [← k.kids]; exact e)
theorem NI.set {l:List NS} (h:NI l) {i:Nat} (hi:i < l.length) {t:NS} (k:Keeps (atN l i) t):NI (l.set i t) :=
 h.of (map_id_set hi k.id) fun u hu=>(mem_set hu).elim (fun q=>⟨u,q,Keeps.refl u⟩) fun q=>⟨atN l i,atN_mem hi,q▸k⟩
theorem nodup_inj {l:List NS} (h:(l.map NS.id).Nodup):∀ {s t:NS},s∈l→t∈l→s.id=t.id→s=t:=by
 induction l with
 | nil=>intro s t hs; simp at hs
 | cons a l ih =>
   intro s t hs ht e
   simp only [List.map_cons,List.nodup_cons] at h
   rcases List.mem_cons.1 hs with rfl | hs <;> rcases List.mem_cons.1 ht with rfl | ht
   ·rfl
   ·exact absurd (List.mem_map.2 ⟨t,ht,e.symm⟩) h.1
   ·rename_i ht'
    exact absurd (List.mem_map.2 ⟨s,by first | exact hs | exact ht',e⟩:t.id∈l.map NS.id) h.1
   ·exact ih h.2 hs ht e
theorem dig_inj {j k:Nat} (hj:j≤9) (hk:k≤9) (h:UInt8.ofNat (48+j)=UInt8.ofNat (48+k)):j=k:=by
 have:=congrArg UInt8.toNat h
 simp at this
 omega
theorem kidI_inj {a b:Bytes} {j k:Nat} (hj:j≤9) (hk:k≤9) (h:kidI a j=kidI b k):a=b∧j=k:=by
 unfold kidI at h
 obtain ⟨h1,h2⟩:=List.append_inj' h rfl
 exact ⟨h1,dig_inj hj hk (by simpa using h2)⟩
@[simp] theorem upI_kid (a:Bytes) (k:Nat):upI (kidI a k)=a:=by
 unfold upI kidI
 simp
theorem kidS_new {l:List NS} (h:NI l) {s:NS} (hs:s∈l) (h0:0≤s.kids) (hm:mayKid s=true):kidS s∉l.map NS.id:=by
 intro hq
 obtain ⟨t,ht,e⟩:=List.mem_map.1 hq
 simp only [mayKid,Bool.and_eq_true,decide_eq_true_eq] at hm
 have:=h.kid s hs t ht (s.kids+1).toNat (by omega) (by omega) e
 omega
theorem kid_not_root (a:Bytes) (ha:a≠[]) (k:Nat):kidI a k≠[48]:=by
 intro e
 have:=congrArg List.length e
 cases a with
 | nil=>exact ha rfl
 | cons b r=>simp [kidI] at this
theorem NI.child {l:List NS} (h:NI l) {i:Nat} (hi:i < l.length) (h0:0≤(atN l i).kids) (hm:mayKid (atN l i)=true) :
  NI (l.set i (settleS (par0 (atN l i)))++[settleS (kid0 (atN l i))]):=by
 have hs:=atN_mem hi
 generalize hse:atN l i=s at hs h0 hm
 have hnew:=kidS_new h hs h0 hm
 have hm':=hm
 simp only [mayKid,Bool.and_eq_true,decide_eq_true_eq] at hm'
 have hidp:(settleS (par0 s)).id=s.id:=rfl
 have hids:(l.set i (settleS (par0 s))).map NS.id=l.map NS.id:=map_id_set hi (by rw [hse]; rfl)
 have hpm:∀ a∈s.members,a∈(settleS (par0 s)).members:=fun a ha=>mem_uniB.2 (.inl ha)
 have hpk:kidS s∈(settleS (par0 s)).members:=mem_uniB.2 (.inr (by simp))
 have hcm:(settleS (kid0 s)).members=(settleS (par0 s)).members:=rfl
 have hci:(settleS (kid0 s)).id=kidS s:=rfl
 have hck:(settleS (kid0 s)).kids=0:=rfl
 have hpK:(settleS (par0 s)).kids=s.kids+1:=rfl
 have hin:settleS (par0 s)∈l.set i (settleS (par0 s)):=List.mem_iff_getElem?.2 ⟨i,by simp [hi]⟩
 have hall:∀ t∈l.set i (settleS (par0 s))++[settleS (kid0 s)],t∈l∨t=settleS (par0 s)∨t=settleS (kid0 s):=fun t ht=>by
  rcases List.mem_append.1 ht with ht | ht
  ·exact (mem_set ht).imp id .inl
  ·exact .inr (.inr (List.mem_singleton.1 ht))
 have hmapc:(l.set i (settleS (par0 s))++[settleS (kid0 s)]).map NS.id=l.map NS.id++[kidS s]:=by rw [List.map_append,hids]; rfl
 have hdist:(l.map NS.id++[kidS s]).Nodup:=by
  rw [List.nodup_append]
  exact ⟨h.dist,by simp,fun a ha b hb e=>by rw [List.mem_singleton.1 hb] at e; exact hnew (e▸ha)⟩
 constructor
 ·intro t ht
  rcases hall t ht with ht | rfl | rfl
  ·exact h.self t ht
  ·exact hpm _ (h.self s hs)
  ·exact hpk
 ·intro t ht e
  rcases hall t ht with ht | rfl | rfl
  ·exact h.par t ht e
  ·exact hpm _ (h.par s hs e)
  ·rw [hci]
   show upI (kidI s.id _)∈_
   rw [upI_kid,hcm]
   exact hpm _ (h.self s hs)
 ·intro t ht k h1 h2
  rcases hall t ht with ht | rfl | rfl
  ·exact h.kids t ht k h1 h2
  ·rw [hpK] at h2
   by_cases hk:(k:Int)≤s.kids
   ·exact hpm _ (h.kids s hs k h1 hk)
   ·have:k=(s.kids+1).toNat:=by omega
    subst this
    exact hpk
  ·rw [hck] at h2; omega
 ·rw [hmapc]; exact hdist
 ·intro u hu t ht k h1 h9 e
  have hup:∀ v∈l,v.id=kidI (kidS s) k→False:=fun v hv e=>by
   have h2:=h.up v hv (by rw [e]; exact kid_not_root _ (by simp [kidS,kidI]) k)
   rw [e,upI_kid] at h2
   exact hnew h2
  have hsl:∀ v∈l,s.id=kidI (kidS s) k→False:=fun v hv e=>hup s hs e
  rcases hall u hu with hu' | rfl | rfl
  ·rcases hall t ht with ht | rfl | rfl
   ·exact h.kid u hu' t ht k h1 h9 e
   ·exact h.kid u hu' s hs k h1 h9 e
   ·rw [hci] at e
    obtain ⟨e1,e2⟩:=kidI_inj (by omega) h9 e
    have hu2:u=settleS (par0 s):=by
     rcases List.mem_append.1 hu with q | q
     ·exact nodup_inj (by rw [hids]; exact h.dist) q hin (by rw [hidp,e1])
     ·have:=List.mem_singleton.1 q
      subst this
      rw [hci] at e1
      exact absurd (congrArg List.length e1) (by simp [kidS,kidI])
    rw [hu2,hpK]; omega
  ·rcases hall t ht with ht | rfl | rfl
   ·have:=h.kid s hs t ht k h1 h9 e
    rw [hpK]; omega
   ·have:=h.kid s hs s hs k h1 h9 e
    rw [hpK]; omega
   ·rw [hci,hidp] at e
    obtain ⟨e1,e2⟩:=kidI_inj (by omega) h9 e
    rw [hpK]; omega
  ·rw [hci] at e
   rcases hall t ht with ht | rfl | rfl
   ·exact (hup t ht e).elim
   ·exact (hup s hs e).elim
   ·rw [hci] at e
    exact absurd (congrArg List.length e) (by simp [kidI])
 ·intro t ht e
  rw [hmapc]
  rcases hall t ht with ht | rfl | rfl
  ·exact List.mem_append.2 (.inl (h.up t ht e))
  ·exact List.mem_append.2 (.inl (h.up s hs e))
  ·rw [hci]
   refine List.mem_append.2 (.inl ?_)
   show upI (kidI s.id _)∈_
   rw [upI_kid]
   exact List.mem_map.2 ⟨s,hs,rfl⟩
 ·intro t ht e
  rcases hall t ht with ht | rfl | rfl
  ·exact h.dep t ht e
  ·exact hm'.2
  ·rw [hck] at e; omega
theorem NI.doS {l:List NS} (h:NI l) {U:List Bytes} (hl:LI U l) {o:NOp}:NI (doS l o):=by
 have hi:=idxN_lt (a:=o.who) hl.pos
 have hj:=idxN_lt (a:=o.other) hl.pos
 have hw:=hl.wn _ (atN_mem hi)
 unfold Zone.doS
 simp only
 split
 ·exact h.set hi keeps_delete
 ·exact h.set hi keeps_zone
 ·split
  ·split
   ·rename_i h0
    by_cases c1:(atN l (idxN o.who l.length)).how≠0
    ·unfold childS at h0; rw [if_pos c1] at h0; exact absurd h0 (by simp)
    ·by_cases c2:mayKid (atN l (idxN o.who l.length))=false
     ·unfold childS at h0; rw [if_neg c1,if_pos c2] at h0; exact absurd h0 (by simp)
     ·unfold childS
      rw [if_neg c1,if_neg c2]
      exact h.child hi hw.kids.1 (by simpa using c2)
   ·rename_i h0
    refine h.set hi ?_
    unfold childS at h0 ⊢
    by_cases c1:(atN l (idxN o.who l.length)).how≠0
    ·rw [if_pos c1]; exact Keeps.refl _
    ·rw [if_neg c1] at h0 ⊢
     by_cases c2:mayKid (atN l (idxN o.who l.length))=false
     ·rw [if_pos c2]; exact Keeps.refl _
     ·rw [if_neg c2] at h0; exact absurd rfl h0
  ·exact h
 ·split
  ·rename_i hne
   have h1:=h.set hi (keeps_retire1 (h:=atN l (idxN o.other l.length)))
   have e:atN (l.set (idxN o.who l.length) (retireS (atN l (idxN o.who l.length)) (atN l (idxN o.other l.length))).1) (idxN o.other l.length)=atN l (idxN o.other l.length):=by
    unfold atN
    rw [List.getElem?_set_ne hne]
   exact h1.set (by simpa using hj) (by rw [e]; exact keeps_retire2)
  ·exact h
 ·exact h.set hi keeps_expel
 ·exact h.set hi keeps_write
end Go.Evl.Zone

namespace Go.Evl.Zone
open Go Go.Evl Go.Evl.Fl
variable {P:Program}
theorem cP_0 (s:NS):List.take 1 (cP s)=[sv s.id]:=rfl
theorem cP_2 (s:NS):List.take 1 (List.drop 2 (cP s))=[iv s.kids]:=rfl
theorem cP_10 (s:NS):List.take 1 (List.drop 10 (cP s))=[lv s.members]:=rfl
theorem ldP0 {l:List NS} {rP i:Nat} (h:i < l.length):loadR (.row 13 (l.map cP) true) rP 13 l.length i 0 1=some ([sv (atN l i).id],[rP]):=by
 rw [loadR_row ⟨rfl,by simp⟩,List.getElem?_map,atN_at h]
 rfl
theorem NI.ne {l:List NS} (h:NI l) {k j:Nat} (hk:k < j) (hj:j < l.length):(atN l k).id≠(atN l j).id:=by
 have:=List.pairwise_iff_getElem.1 h.dist k j (by simp; omega) (by simpa using hj) hk
 have e:∀ i (hi:i < l.length),(l.map NS.id)[i]'(by simpa using hi)=(atN l i).id:=fun i hi=>by
  have h:=atN_at hi
  rw [List.getElem?_eq_getElem hi] at h
  simp only [List.getElem_map]
  rw [Option.some.inj h]
 rw [e k (by omega),e j hj] at this
 exact this
section
variable {ops:List NOp} {p rP rR:Nat} {l:List NS} {U:List Bytes}
theorem names_loop (T:TB P) (C:NCB P) {ks:List Fr'} {K:Ex→St→Prop}:∀ (rest:List NOp) (i:Nat) (l:List NS) (st:St),ops.drop i=rest→i≤ops.length→i≤40→DI st.h p i l→NI l→st.σ 0 = .im (opsV ops) false→st.σ 3 = .ptr p 0→st.σ 4=iv i →
  (∀ st' i l,DI st'.h p i l→NI l→i≤40→st'.σ 3 = .ptr p 0→VN (env P) 8 st' ks K)→(∀ st',st'.σ 2=bv true→K .ret st')→V (env P) 8 (.loop L8_0) st (.blk 0::ks) K
 | [],i,l,st,hr,hile,hi,hD,hN,h0,h3,h4,hend,hret=>by
   obtain ⟨hii,hlt,hd⟩:=drop_nil hr hile
   rw [V_loop]
   simp [L8_0,h0,h4,hlt]
   exact hend _ i l (by repeat (first | exact hD | refine DI.grow ?_)) hN hi (by simp [h3])
 | o::rest,i,l,st,hr,hile,hi,hD,hN,h0,h3,h4,hend,hret=>by
   obtain ⟨hq,hlt,hr',_⟩:=drop_cons hr
   have hc:=opsV_at hq
   have hw:=wrapS (i:=i) (by omega)
   have kf:=few11_ans (P:=P) (o:=o)
   have kt:=C.told
   rw [V_loop]
   by_cases h40:(i:Int) < 40
   ·cases hf:fewO o with
    | false =>
      rw [hf] at kf
      simp only [opC] at kf
      simp [L8_0,h0,h3,h4,hlt,h40,hc,kf,kt]
      exact hret _ (by simp)
    | true =>
      rw [hf] at kf
      simp only [opC] at kf
      simp [L8_0,h0,h3,h4,hlt,h40,hc,kf]
      refine VA_keep rfl rfl (do_KC (p:=p) (n:=i) (l:=l) T (by repeat (first | exact hD | refine DI.grow ?_)) (by omega) hf fun H' wl hD' _=>?_)
      simp [h0,h3,h4,hw]
      exact names_loop T C rest (i+1) (doS l o) _ hr' (by omega) (by omega) (by repeat (first | exact hD' | refine DI.grow ?_)) (let ⟨_,_,hl,_⟩:=hD.li; hN.doS hl) (by simp [h0]) (by simp [h3]) (by simp) hend hret
   ·simp [L8_0,h0,h4,hlt,h40]
    exact hend _ i l (by repeat (first | exact hD | refine DI.grow ?_)) hN hi (by simp [h3])
structure AtNm (p rP rR b j:Nat) (l:List NS) (st:St):Prop where
 px:PX st.h p rP rR l
 s3:st.σ 3 = .ptr p 0
 s5:st.σ 5=iv j
 s6:st.σ 6 = .ptr b 0
 bx:st.h.at_ b = .box (cP (atN l j))
 bn:b < st.h.n
theorem names1_loop (T:TB P) (hn:NI l) {b j:Nat} (hj:j < l.length) (hL:l.length≤8) {ks:List Fr'} {K:Ex→St→Prop}:∀ (m k:Nat) (st:St),k+m=j→AtNm p rP rR b j l st→st.σ 7=iv k →
  (∀ st',AtNm p rP rR b j l st'→VN (env P) 8 st' ks K)→V (env P) 8 (.loop L8_1) st (.blk 4::ks) K
 | 0,k,st,hm,hS,h7,hend=>by
   have hkj:¬ (k:Int) < j:=by omega
   have h5:=hS.s5
   rw [V_loop]
   simp [L8_1,h5,h7,hkj]
   exact hend _ ⟨by repeat (first | exact hS.px | refine PX.grow ?_),by simp [hS.s3],by simp [hS.s5],by simp [hS.s6],by simp [hS.bn,hS.bx],by simpa using hS.bn⟩
 | m+1,k,st,hm,hS,h7,hend=>by
   have hS':=hS
   obtain ⟨⟨b1,b2,b3,n1,n2,n3⟩,h3,h5,h6,bx,bn⟩:=hS
   have hkj:(k:Int) < j:=by omega
   have hkl:k < l.length:=by omega
   have hkli:(k:Int) < l.length:=by omega
   have hw:=wrapS (i:=k) (by omega)
   have l1:=ldP0 (rP:=rP) hkl
   have hne:=hn.ne (k:=k) (j:=j) (by omega) hj
   have c0:=cP_0 (atN l j)
   have hq:=fun t cx cy=>evBin_seql (P:=P) (t:=t) (cx:=cx) (cy:=cy) (atN l k).id (atN l j).id
   simp only [hne,decide_false] at hq
   generalize (atN l k).id=ak at l1 hq
   generalize (atN l j).id=aj at c0 hq
   rw [V_loop]
   simp [L8_1,h3,h5,h6,h7,hkj,hkl,hkli,b1,b2,b3,n1,n2,n3,bx,bn,l1,c0,hq,hw]
   exact names1_loop T hn hj hL m (k+1) _ (by omega) ⟨by repeat (first | exact hS'.px | refine PX.grow ?_),by simp [h3],by simp [h5],by simp [h6],by simp [bn,bx],by simpa using bn⟩ (by simp) hend
theorem names2_loop (T:TB P) (hn:NI l) {b j:Nat} (hj:j < l.length) (hw:WN U (atN l j)) (hU:UOK U) {ks:List Fr'} {K:Ex→St→Prop}:∀ (m k:Nat) (st:St),k+m=(atN l j).kids.toNat+1→1≤k→AtNm p rP rR b j l st→st.σ 10=iv k →
  (∀ st',AtNm p rP rR b j l st'→VN (env P) 8 st' ks K)→V (env P) 8 (.loop L8_2) st (.blk 6::ks) K
 | 0,k,st,hm,h1,hS,h10,hend=>by
   have hkids:=hw.kids
   have hkj:¬ (k:Int)≤(atN l j).kids:=by omega
   have c2:=cP_2 (atN l j)
   obtain ⟨⟨b1,b2,b3,n1,n2,n3⟩,h3,h5,h6,bx,bn⟩:=id hS
   rw [V_loop]
   simp [L8_2,h6,h10,bx,bn,c2,hkj]
   exact hend _ ⟨by repeat (first | exact hS.px | refine PX.grow ?_),by simp [hS.s3],by simp [hS.s5],by simp [hS.s6],by simp [hS.bn,hS.bx],by simpa using hS.bn⟩
 | m+1,k,st,hm,h1,hS,h10,hend=>by
   have hS':=hS
   obtain ⟨⟨b1,b2,b3,n1,n2,n3⟩,h3,h5,h6,bx,bn⟩:=hS
   have hkids:=hw.kids
   have hkj:(k:Int)≤(atN l j).kids:=by omega
   have hmj:=atN_mem hj
   have hid:=hU.r _ hw.idU
   have hdep:=hn.dep _ hmj (by omega)
   have c0:=cP_0 (atN l j)
   have c2:=cP_2 (atN l j)
   have c10:=cP_10 (atN l j)
   have T0:Typed P:=T.toTI.toTyped3.toTyped2.toTyped
   have k1:=idChild_ans (P:=P) T0 hid hdep h1 (by omega:k≤9)
   have k2:=idHas_ans (P:=P) (n:=kidI (atN l j).id k) T hw.members (by have:=hw.ml; have:=hU.n; unfold most; omega)
   simp only [hn.kids _ hmj k h1 hkj,decide_true] at k2
   have hwr:=wrapS (i:=k) (by omega)
   rw [V_loop]
   generalize hb:atN l j=s at *
   generalize kidI s.id k=kd at k1 k2
   simp [L8_2,h3,h5,h6,h10,hkj,bx,bn,c0,c2,c10,k1,k2,hwr]
   subst hb
   exact names2_loop T hn hj hw hU m (k+1) _ (by omega) (by omega) ⟨by repeat (first | exact hS'.px | refine PX.grow ?_),by simp [h3],by simp [h5],by simp [h6],by simp [bn,bx],by simpa using bn⟩ (by simp) hend
theorem names3_loop (hU:UOK U) (T:TB P) (hn:NI l) (hl:∀ s∈l,WN U s) (hL:l.length≤8) {ks:List Fr'} {K:Ex→St→Prop}:∀ (rest:List NS) (j:Nat) (st:St),l.drop j=rest→j≤l.length→PX st.h p rP rR l→st.σ 3 = .ptr p 0→st.σ 5=iv j →
  (∀ st',VN (env P) 8 st' ks K)→V (env P) 8 (.loop L8_3) st (.blk 2::ks) K
 | [],j,st,hr,hj,hp,h3,h5,hend=>by
   obtain ⟨hii,hlt,hd⟩:=drop_nil hr hj
   obtain ⟨b1,b2,b3,n1,n2,n3⟩:=hp
   rw [V_loop]
   simp [L8_3,h3,h5,b1,n1,hlt]
   exact hend _
 | s::rest,j,st,hr,hj,hp,h3,h5,hend=>by
   obtain ⟨hq,hlt,hr',ht⟩:=drop_cons hr
   have hp':=hp
   obtain ⟨b1,b2,b3,n1,n2,n3⟩:=hp
   have hjl:j < l.length:=by omega
   have hmj:=atN_mem hjl
   have hs:=hl _ hmj
   have hid:=hU.r _ hs.idU
   have wi:IntKind.i64.wrap ((j:Int)+1)=((j+1:Nat):Int):=by rw [wrap64_id (by omega)]; rfl
   have l1:=ldP (rP:=rP) hjl
   have st0:=fun {c:List PV} (h:c.length=13)=>cP_set (atN l j) h
   have hml:(atN l j).members.length≤most:=by have:=hs.ml; have:=hU.n; unfold most; omega
   have k1:=idHas_ans (P:=P) (n:=(atN l j).id) T hs.members hml
   simp only [hn.self _ hmj,decide_true] at k1
   have k2:=idRight_ans (P:=P) (s:=(atN l j).id)
   rw [hid] at k2
   have k3:=idParent_ans (P:=P) hid
   have e1:¬ p=st.h.n:=by omega
   have e2:¬ rP=st.h.n:=by omega
   have e3:¬ rR=st.h.n:=by omega
   rw [V_loop]
   simp [L8_3,h3,h5,b1,b2,b3,n1,n2,n3,hlt,hjl,l1,st0]
   refine names1_loop (p:=p) (rP:=rP) (rR:=rR) (b:=st.h.n) T hn hjl hL j 0 _ (by omega) ⟨?_,by simp [h3],by simp [h5],by simp,by simp,by simp⟩ (by simp) fun st' hS=>?_
   ·exact hp'.gr (by repeat (first | exact Gr.refl | refine Gr.grow ?_ | refine Gr.put ?_ (Nat.le_refl _)))
   obtain ⟨⟨b1,b2,b3,n1,n2,n3⟩,h3,h5,h6,bx,bn⟩:=id hS
   have c0:=cP_0 (atN l j)
   have c10:=cP_10 (atN l j)
   by_cases hroot:(atN l j).id=[48]
   ·rw [if_pos hroot] at k3
    simp [h3,h5,h6,bx,bn,c0,c10,k1,k2,k3]
    refine names2_loop (p:=p) (rP:=rP) (rR:=rR) (b:=st.h.n) T hn hjl hs hU ((atN l j).kids.toNat) 1 _ (by omega) (by omega) ⟨by repeat (first | exact hS.px | refine PX.grow ?_),by simp [h3],by simp [h5],by simp [h6],by simp [bn,bx],by simpa using bn⟩ (by simp) fun st3 hS3=>?_
    simp [hS3.s5,wi]
    exact names3_loop hU T hn hl hL rest (j+1) _ hr' (by omega) (by repeat (first | exact hS3.px | refine PX.grow ?_)) (by simp [hS3.s3]) (by simp) hend
   ·rw [if_neg hroot] at k3
    have k4:=idHas_ans (P:=P) (n:=upI (atN l j).id) T hs.members hml
    simp only [hn.par _ hmj hroot,decide_true] at k4
    have k3:ans (env P) 54 [sv (atN l j).id]=some (.tup [sv (upI (atN l j).id),iv 0]):=k3
    generalize upI (atN l j).id=up at k3 k4
    simp [h3,h5,h6,bx,bn,c0,c10,k1,k2,k3,k4]
    refine names2_loop (p:=p) (rP:=rP) (rR:=rR) (b:=st.h.n) T hn hjl hs hU ((atN l j).kids.toNat) 1 _ (by omega) (by omega) ⟨by repeat (first | exact hS.px | refine PX.grow ?_),by simp [h3],by simp [h5],by simp [h6],by simp [bn,bx],by simpa using bn⟩ (by simp) fun st3 hS3=>?_
    simp [hS3.s5,wi]
    exact names3_loop hU T hn hl hL rest (j+1) _ hr' (by omega) (by repeat (first | exact hS3.px | refine PX.grow ?_)) (by simp [hS3.s3]) (by simp) hend
theorem lawNames_ans (T:TB P) (C:NCB P) (ops:List NOp):ans (env P) 8 [.im (opsV ops) false]=some (bv true):=by
 have kt:=C.told
 refine ans_V rfl rfl ?_
 simp [c8]
 refine VA_keep rfl rfl (begin_KC C fun H' wl p hG _ hD=>?_)
 simp
 refine names_loop (ops:=ops) (p:=p) T C ops 0 [rootN] _ rfl (by omega) (by omega) (by repeat (first | exact hD | refine DI.grow ?_)) NI.root (by simp) (by simp) (by simp) ?_ ?_
 ·intro st' i l hD hN hi h3
  obtain ⟨rP,rR,hp⟩:=hD.pa
  obtain ⟨U,hU,hl,hu⟩:=hD.li
  simp
  refine names3_loop (p:=p) (l:=l) (rP:=rP) (rR:=rR) hU T hN hl.wn hl.le l 0 _ rfl (by omega) (by repeat (first | exact hp.px | refine PX.grow ?_)) (by simp [h3]) (by simp) fun st'=>?_
  simp [kt]
 ·intro st' h
  simp [h]
end
end Go.Evl.Zone
