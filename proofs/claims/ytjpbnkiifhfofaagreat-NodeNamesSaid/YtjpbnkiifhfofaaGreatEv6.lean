/- The evaluator's texts CU1 to CN28, joined. -/
import Derived.Test.YtjpbnkiifhfofaaGreatEv5
set_option maxHeartbeats 1000000
set_option linter.all false
set_option linter.deprecated false
set_option linter.unusedVariables false
set_option linter.unusedSimpArgs false
set_option linter.unnecessarySimpa false
namespace Go.Evl.Zone
open Go Go.Evl
variable {P:Program}
def dedB:List Bytes→List Bytes
 | []=>[]
 | [a]=>[a]
 | a::b::l=>if a=b then dedB (b::l) else a::dedB (b::l)
theorem concatB_app {a b:List Bytes} {f1 f2 f3:Bool} {N:Nat} {ks:List Fr'} {K:Ex→St→Prop} (hL:a.length+b.length≤most) {st:St} {x:PV} (h25:st.σ 25 = .im [[.im (En a) f1],[.im (En b) f2]] f3) (h26:st.σ 26=iv 2) (h27:st.σ 27=iv 0) (h6:st.σ 6=x) (hl:FN N st.h 1 x (En ([]:List Bytes))) (hN:N≤st.h.n) (hw:∀ j∈st.wl,N≤j)
  (hend:∀ st' x,st'.σ 6=x→FN N st'.h 1 x (En (a++b))→N≤st'.h.n→(∀ j,j < N→st'.h.at_ j=st.h.at_ j)→(∀ j∈st'.wl,N≤j)→VN (env P) 172 st' ks K):V (env P) 172 (.loop L172_1) st (.blk 2::ks) K:=by
 have v1:IntKind.i64.wrap 1=1:=wrap64_id (by omega)
 have v2:IntKind.i64.wrap 2=2:=wrap64_id (by omega)
 rw [V_loop]
 simp [L172_1,h25,h26,h27,h6,allLen,elems]
 refine VP_appF (N:=N) (ys:=En ([]:List Bytes)) (by repeat (first | exact hl | refine FN.grow ?_)) (by simp) (by simp) hN (by simp [allLen]) (by simp; omega) fun v' H' wr rd e2 e3 _ e5 e6=>?_
 rw [En_nil,List.nil_append] at e2
 simp [h25,h26,h27,v1,v2,e3]
 rw [V_loop]
 simp [h25,h26,h27,v1,v2,e3,allLen,elems]
 refine VP_appF (N:=N) (ys:=En a) (by repeat (first | exact e2 | refine FN.grow ?_)) (by simp [e3]) (by simp [e3]) (by omega) (by simp [allLen]) (by simp; omega) fun v2' H2 wr2 rd2 g2 g3 _ g5 g6=>?_
 rw [← En_append] at g2
 simp [h25,h26,h27,v1,v2,e3,g3]
 rw [V_loop]
 simp [h25,h26,h27,v1,v2,e3,g3]
 refine hend _ v2' (by simp) (by repeat (first | exact g2 | refine FN.grow ?_)) (by simp [g3,e3]; omega) (fun j hj=>?_) ?_
 ·have:=g5 j hj
  have:=e5 j hj
  simp [*,show j < st.h.n by omega,show j < st.h.n+1 by omega,show j < st.h.n+1+1 by omega,g3,e3] at *
  done
 ·intro j hj
  simp at hj
  rcases hj with h | h | h
  ·exact g6 j h
  ·exact e6 j h
  ·exact hw j h
theorem concatB_KC {H:Heap} {a b:List Bytes} {f1 f2 f3:Bool} {K:PV→Heap→List Nat→Prop} (hL:a.length+b.length≤most) (hK:∀ x H' wl,FN H.n H' 1 x (En (a++b))→H.n≤H'.n→(∀ j,j < H.n→H'.at_ j=H.at_ j)→(∀ j∈wl,H.n≤j)→K x H' wl):KC (env P) 172 [.im [[.im (En a) f1],[.im (En b) f2]] f3] H K:=by
 have c1:=fun {dst:Option Nat} {rest:List CI} {i slot slot':Nat} {log:Log} {d:Dr} {K:Ex→St→Prop} {st:St} {ks:List Fr'} {xs:List O}=>VA_prim (E:=env P) (f:=172) (g:=213) (p:=pGrow 1) (dst:=dst) (rest:=rest) (i:=i) (slot:=slot) (slot':=slot') (log:=log) (d:=d) (K:=K) (st:=st) (ks:=ks) (xs:=xs) rfl
 have hM:most=68719476736:=rfl
 have w1:IntKind.i64.wrap (a.length:Int)=(a.length:Int):=wrap64_id (by omega)
 have w2:IntKind.i64.wrap ((a.length:Int)+(b.length:Int))=(a.length:Int)+(b.length:Int):=wrap64_id (by omega)
 have q1:¬ (a.length:Int) < 0:=by omega
 have q2:¬ (a.length:Int)+(b.length:Int) < 0:=by omega
 have v1:IntKind.i64.wrap 1=1:=wrap64_id (by omega)
 have v2:IntKind.i64.wrap 2=2:=wrap64_id (by omega)
 have ec:((a.length:Int)+(b.length:Int)).toNat=a.length+b.length:=by omega
 refine KC_of (cf:=c172) (fun _=>rfl) rfl ?_
 simp [c172]
 rw [V_loop]
 simp [L172_0,allLen,w1,q1,w2,q2,v1,v2]
 rw [V_loop]
 simp [L172_0,allLen,w1,q1,w2,q2,v1,v2]
 rw [V_loop]
 simp [L172_0,allLen,w1,q1,w2,q2,v1,v2,c1]
 by_cases h0:(a.length:Int)+(b.length:Int)=0
 ·have ha:a=[]:=List.length_eq_zero_iff.1 (by omega)
  have hb:b=[]:=List.length_eq_zero_iff.1 (by omega)
  subst ha hb
  simp [pGrow,elems,allLen,h0]
  refine concatB_app (a:=[]) (b:=[]) (f1:=f1) (f2:=f2) (f3:=f3) (N:=H.n) (by simp) (x:=.im [] true) (by simp) (by simp) (by simp) (by simp) (.im rfl rfl) (by simp) (by simp) ?_
  intro st' x e1 e2 e3 e4 e5
  simp [e1,resV,resP]
  have E:=keepH (h:=st'.h) (H:=H) (n:=st'.h.n) rfl
  exact hK x _ _ (fn_same e2 E) (Nat.le_trans e3 (Nat.le_of_eq E.1.symm)) (fun j hj=>(E.2 j (by omega)).trans (by rw [e4 j hj]; simp [hj,show j < H.n+1 by omega])) e5
 ·have p1:(0:Int) < (a.length:Int)+(b.length:Int):=by omega
  have p2:(a.length:Int)+(b.length:Int)≤(most:Int):=by omega
  simp [pGrow,elems,allLen,h0,p1,p2]
  refine concatB_app (a:=a) (b:=b) (f1:=f1) (f2:=f2) (f3:=f3) (N:=H.n) hL (x:=.sl H.n 1 0 0 0) (by simp) (by simp) (by simp) (by simp) (.row H.n rfl (by simp) (Nat.le_refl _) (by simp) (by simp [allLen])) (by simp) (by simp) ?_
  intro st' x e1 e2 e3 e4 e5
  simp [e1,resV,resP]
  have E:=keepH (h:=st'.h) (H:=H) (n:=st'.h.n) rfl
  exact hK x _ _ (fn_same e2 E) (Nat.le_trans e3 (Nat.le_of_eq E.1.symm)) (fun j hj=>(E.2 j (by omega)).trans (by rw [e4 j hj]; simp [hj,show j < H.n+1 by omega,show ¬ j=H.n by omega])) e5
theorem strs_En:∀ l:List Bytes,strs (En l)=some l
 | []=>rfl
 | a::l=>by simp [En_cons,strs,strs_En l]
theorem sortB_len (l:List Bytes):(sortB l).length=l.length:=(sortB_perm l).length_eq
theorem allLen_B (l:List Bytes):allLen 1 (En l)=true:=allLen_En (α:=Bytes) rfl l
theorem sortB_FN {H:Heap} {N:Nat} {x:PV} {l:List Bytes} (h:FN N H 1 x (En l)) (hm:l.length≤most):∃ H' wr,pSortS 92 [x,.fn 92 []] H=some ⟨uv,H',wr,none⟩∧FN N H' 1 x (En (sortB l))∧H'.n=H.n+1∧(∀ i,i < H.n→i < N→H'.at_ i=H.at_ i)∧(∀ i∈wr,N≤i):=by
 cases h with
 | im hv h0 =>
   have hl:l=[]:=by cases l with
    | nil=>rfl
    | cons a l=>simp [En_cons] at h0
   subst hv hl
   exact ⟨H.grow 1,[],rfl,.im rfl rfl,rfl,fun i h1 h2=>by simp [h1],by simp⟩
 | row r hv hb hN hr hl =>
   subst hv
   refine ⟨(H.grow 1).put r (.row 1 (En (sortB l)) true),[r],?_,.row r (by simp [sortB_len]) ?_ hN ?_ (allLen_B _),rfl,?_,?_⟩
   ·simp only [pSortS,sortRow,hb]
    rw [if_pos trivial,if_pos ⟨trivial,trivial,by simpa using hm⟩,strs_En]
    rfl
   ·simp [show r < H.n+1 by omega]
   ·show r < H.n+1; omega
   ·intro i h1 h2
    simp only [at_put,at_grow]
    rw [if_neg (by omega),if_pos h1]
   ·intro i hi
    simp at hi
    omega
theorem dedB_snoc (b:Bytes):∀ (m:List Bytes) (a:Bytes),dedB (m++[a,b])=if a=b then dedB (m++[a]) else dedB (m++[a])++[b]
 | [],a=>by
   show (if a=b then dedB [b] else a::dedB [b])=_
   split
   ·rename_i h; rw [h]; rfl
   ·rfl
 | [c],a=>by
   have ih:=dedB_snoc b [] a
   simp only [List.nil_append] at ih
   show (if c=a then dedB (a::[b]) else c::dedB (a::[b]))=if a=b then (if c=a then dedB [a] else c::dedB [a]) else (if c=a then dedB [a] else c::dedB [a])++[b]
   rw [ih]
   split <;> split <;> rfl
 | c::d::m,a=>by
   have ih:=dedB_snoc b (d::m) a
   show (if c=d then dedB (d::(m++[a,b])) else c::dedB (d::(m++[a,b])))=if a=b then (if c=d then dedB (d::(m++[a])) else c::dedB (d::(m++[a]))) else (if c=d then dedB (d::(m++[a])) else c::dedB (d::(m++[a])))++[b]
   simp only [List.cons_append] at ih
   rw [ih]
   split <;> split <;> rfl
theorem take_twoB {l:List Bytes} {i:Nat} {a b:Bytes} (ha:l[i]?=some a) (hb:l[i+1]?=some b):l.take (i+2)=l.take i++[a,b]∧l.take (i+1)=l.take i++[a]:=by
 have h1:l.take (i+1)=l.take i++[a]:=by rw [List.take_add_one,ha]; rfl
 refine ⟨?_,h1⟩
 rw [show i+2=(i+1)+1 from rfl,List.take_add_one,hb,h1]
 simp
theorem loadR_B {X:List Bytes} {r n j:Nat} {q:Bytes} (hn:X.length=n) (h:X[j]?=some q):loadR (.row 1 (En X) true) r 1 n j 0 1=some ([sv q],[r]):=by
 rw [loadR_row ⟨rfl,by simp [hn]⟩,En_at? h]
 rfl
theorem storeR_B {H:Heap} {X:List Bytes} {r n j:Nat} {q:Bytes} (hn:X.length=n) (h:j < n):storeR H (.row 1 (En X) true) r 1 n j 0 [sv q]=some (H.put r (.row 1 (En (X.set j q)) true),r):=by
 have hj:(En X)[j]?=some [sv X[j]]:=En_at? (List.getElem?_eq_getElem (by omega))
 unfold storeR
 simp only [toRow,ob_some]
 rw [if_pos ⟨trivial,trivial,by simp [hn]⟩,hj,ob_some]
 simp [setL,En,List.map_set]
theorem mix_atB? {D l:List Bytes} {j:Nat} {q:Bytes} (hD:D.length≤j) (h:l[j]?=some q):(D++l.drop D.length)[j]?=some q:=by
 rw [List.getElem?_append_right hD,List.getElem?_drop,show D.length+(j - D.length)=j by omega,h]
theorem mix_setB {D l:List Bytes} {q:Bytes} (hD:D.length < l.length):(D++l.drop D.length).set D.length q=(D++[q])++l.drop (D++[q]).length:=by
 rw [List.set_append_right _ _ (Nat.le_refl _),Nat.sub_self,List.drop_eq_getElem_cons hD,List.set_cons_zero]
 simp
theorem cpb_loop1 {l:List Bytes} {r k m n:Nat} (hn:l.length=n) (hkm:k+m=n) (hm:n≤most) {H:Heap} {ks:List Fr'} {K:Ex→St→Prop}:∀ (rest:List Bytes) (t:Nat) (D:List Bytes) (st:St),l.drop (k+t)=rest→k+t≤n→0 < t→D=dedB (l.take (k+t))→D.length < k+t→st.σ 0 = .sl r 1 n 0 n→st.σ 4 = .sl r 1 n k m→st.σ 3=iv D.length→st.σ 5=iv t→st.h.at_ r = .row 1 (En (D++l.drop D.length)) true→st.h.n=H.n→r < H.n→(∀ i,i < H.n→i≠r→st.h.at_ i=H.at_ i)→(∀ i∈st.wl,i=r) →
  (∀ st',(dedB l).length < n→st'.σ 0 = .sl r 1 n 0 n→st'.σ 3=iv (dedB l).length→st'.h.at_ r = .row 1 (En (dedB l++l.drop (dedB l).length)) true→st'.h.n=H.n→(∀ i,i < H.n→i≠r→st'.h.at_ i=H.at_ i)→(∀ i∈st'.wl,i=r)→VN (env P) 174 st' ks K)→V (env P) 174 (.loop L174_0) st (.blk 2::ks) K
 | [],t,D,st,hr,hle,ht,hD,hlt,h0,h4,h3,h5,hb,hN,hrn,hf,hw,hend=>by
   have he:k+t=n:=by
    have:=congrArg List.length hr
    simp at this
    omega
   have hD2:D=dedB l:=by rw [hD,he,← hn,List.take_length]
   subst hD2
   have c1:¬ t < m:=by omega
   rw [V_loop]
   simp [L174_0,h4,h5,c1]
   exact hend _ (by omega) (by simp [h0]) (by simp [h3]) (by simpa [hN,hrn] using hb) (by simpa using hN) (fun i hi hne=>by simpa [hN,hi] using hf i hi hne) (by simpa using hw)
 | q::rest,t,D,st,hr,hle,ht,hD,hlt,h0,h4,h3,h5,hb,hN,hrn,hf,hw,hend=>by
   obtain ⟨hq,hlt2,hr',_⟩:=drop_cons hr
   obtain ⟨s,hs⟩:∃ s,t=s+1:=⟨t - 1,by omega⟩
   obtain ⟨p,hp⟩:∃ p,l[k+s]?=some p:=⟨_,List.getElem?_eq_getElem (by omega)⟩
   obtain ⟨t2,t1⟩:=take_twoB hp (show l[k+s+1]?=some q by rw [← hq,hs]; rfl)
   have hd:=dedB_snoc q (l.take (k+s)) p
   rw [← t1,← t2,show k+s+1=k+t by omega,← hD] at hd
   have hM:most=68719476736:=rfl
   have g1:=mix_atB? (D:=D) (by omega) hq
   have g2:=mix_atB? (D:=D) (by omega) hp
   have hXl:(D++l.drop D.length).length=n:=by simp; omega
   have c1:t < m:=by omega
   have c2:s < m:=by omega
   have c4:k+t < n:=by omega
   have c5:k+s < n:=by omega
   have c6:D.length < n:=by omega
   have w1:IntKind.i64.wrap ((t:Int) - 1)=(s:Int):=by rw [wrap64_id (by omega)]; omega
   have w2:IntKind.i64.wrap ((t:Int)+1)=((t+1:Nat):Int):=by rw [wrap64_id (by omega)]; rfl
   have w3:IntKind.i64.wrap ((D.length:Int)+1)=((D.length+1:Nat):Int):=by rw [wrap64_id (by omega)]; rfl
   have hrn':r < st.h.n:=by omega
   have hset:=mix_setB (D:=D) (l:=l) (q:=q) (by omega)
   obtain ⟨X,hX⟩:∃ X,X=D++l.drop D.length:=⟨_,rfl⟩
   rw [← hX] at hb g1 g2 hXl hset
   have l1:=loadR_B (r:=r) hXl g1
   have l2:=loadR_B (r:=r) hXl g2
   have s1:=fun H=>storeR_B (H:=H) (r:=r) (q:=q) hXl c6
   rw [hset] at s1
   rw [V_loop]
   by_cases e:p=q
   ·rw [if_pos e] at hd
    simp only [e] at l2
    simp [L174_0,h4,h5,h3,h0,c1,c2,c4,c5,w1,w2,hb,hrn',l1,l2,e,evBin_sneq]
    refine cpb_loop1 hn hkm hm rest (t+1) D _ hr' (by omega) (by omega) (by rw [← hd,show k+(t+1)=k+s+2 by omega]) (by omega) (by simp [h0]) (by simp [h4]) (by simp [h3]) (by simp) (by simp [hb,hrn',hX]) (by simpa using hN) hrn (fun i hi hne=>by simp [hN,hi,hf i hi hne]) hw hend
   ·rw [if_neg e] at hd
    have e':¬ q=p:=fun h=>e h.symm
    simp [L174_0,h4,h5,h3,h0,c1,c2,c4,c5,c6,w1,w2,w3,hb,hrn',l1,l2,s1,e',evBin_sneq]
    refine cpb_loop1 hn hkm hm rest (t+1) (D++[q]) _ hr' (by omega) (by omega) (by rw [← hd,show k+(t+1)=k+s+2 by omega]) (by simp; omega) (by simp [h0]) (by simp [h4]) (by simp) (by simp) (by simp [hrn']) (by simpa using hN) hrn (fun i hi hne=>by simp [hN,hi,hne,hf i hi hne]) (by simpa using hw) hend
theorem cpb_loop0 {l:List Bytes} {r n:Nat} (hn:l.length=n) (hm:n≤most) {H:Heap} {ks:List Fr'} {K:Ex→St→Prop}:∀ (rest:List Bytes) (i:Nat) (st:St),l.drop i=rest→i≤n→0 < i→dedB (l.take i)=l.take i→st.σ 0 = .sl r 1 n 0 n→st.σ 3=iv i→st.h.at_ r = .row 1 (En l) true→st.h.n=H.n→r < H.n→(∀ i,i < H.n→i≠r→st.h.at_ i=H.at_ i)→(∀ i∈st.wl,i=r) →
  (∀ st',dedB l=l→st'.σ 0 = .sl r 1 n 0 n→st'.h.at_ r = .row 1 (En l) true→st'.h.n=H.n→(∀ i,i < H.n→i≠r→st'.h.at_ i=H.at_ i)→(∀ i∈st'.wl,i=r)→VN (env P) 174 st' ks K) →
  (∀ st',(dedB l).length < n→st'.σ 2 = .sl r 1 n 0 (dedB l).length→st'.h.at_ r = .row 1 (En (dedB l++List.replicate (n - (dedB l).length) ([]:Bytes))) true→st'.h.n=H.n→(∀ i,i < H.n→i≠r→st'.h.at_ i=H.at_ i)→(∀ i∈st'.wl,i=r)→K .ret st')→V (env P) 174 (.loop L174_1) st (.blk 0::ks) K
 | [],i,st,hr,hile,hi,hd,h0,h3,hb,hN,hrn,hf,hw,hend,hret=>by
   obtain ⟨hii,hlt,hl⟩:=drop_nil hr (by omega)
   have c1:¬ i < n:=by omega
   rw [V_loop]
   simp [L174_1,h0,h3,c1]
   exact hend _ (by rw [hl] at hd; exact hd) (by simp [h0]) (by simpa [hN,hrn] using hb) (by simpa using hN) (fun i hi hne=>by simpa [hN,hi] using hf i hi hne) (by simpa using hw)
 | q::rest,i,st,hr,hile,hi,hd,h0,h3,hb,hN,hrn,hf,hw,hend,hret=>by
   obtain ⟨hq,hlt,hr',_⟩:=drop_cons hr
   obtain ⟨s,hs⟩:∃ s,i=s+1:=⟨i - 1,by omega⟩
   obtain ⟨p,hp⟩:∃ p,l[s]?=some p:=⟨_,List.getElem?_eq_getElem (by omega)⟩
   obtain ⟨t2,t1⟩:=take_twoB hp (show l[s+1]?=some q by rw [← hq,hs])
   have hd2:=dedB_snoc q (l.take s) p
   rw [← t1,← t2,show s+1=i by omega,hd] at hd2
   have hM:most=68719476736:=rfl
   have c1:i < n:=by omega
   have c2:s < n:=by omega
   have w1:IntKind.i64.wrap ((i:Int) - 1)=(s:Int):=by rw [wrap64_id (by omega)]; omega
   have w2:IntKind.i64.wrap ((i:Int)+1)=((i+1:Nat):Int):=by rw [wrap64_id (by omega)]; rfl
   have hrn':r < st.h.n:=by omega
   have l1:=loadR_B (r:=r) hn hq
   have l2:=loadR_B (r:=r) hn hp
   rw [V_loop]
   by_cases e:p=q
   ·rw [if_pos e] at hd2
    simp only [e] at l2
    have c3:i≤n:=by omega
    have c4:¬ i=n:=by omega
    have hti:(l.take i).length=i:=by simp; omega
    simp [L174_1,h3,h0,c1,c2,c3,c4,w1,w2,hb,hrn',l1,l2,e,sliceP,hn,evBin_seql]
    refine cpb_loop1 (k:=i) (m:=n - i) hn (by omega) hm rest 1 (l.take i) _ hr' (by omega) (by omega) (by rw [← hd2,show i+1=s+2 by omega]) (by omega) (by simp [h0]) (by simp) (by simp [h3,hti]) (by simp) (by rw [hti,List.take_append_drop]; simp [hb,hrn']) (by simpa using hN) hrn (fun i hi hne=>by simp [hN,hi,hf i hi hne]) hw ?_
    intro st' a1 a0 a3 ab aN af aw
    have hrn2:r < st'.h.n:=by omega
    have hE:(En (dedB l++l.drop (dedB l).length)).length=n:=by simp; omega
    have hset:List.take (dedB l).length (En (dedB l++l.drop (dedB l).length))++(List.replicate (n - (dedB l).length) [PV.val (.string ⟨#[]⟩)]++List.drop n (En (dedB l++l.drop (dedB l).length)))=En (dedB l++List.replicate (n - (dedB l).length) ([]:Bytes)):=by
     have hdl:List.drop n (dedB l++l.drop (dedB l).length)=[]:=List.drop_of_length_le (by rw [List.length_append,List.length_drop]; omega)
     rw [En_take,En_drop,hdl,List.take_append_of_le_length (Nat.le_refl _),List.take_length,En_append]
     simp [En]
    simp [a0,a3,sliceP,ab,hrn2,hE,show (dedB l).length≤n by omega,show ¬ (dedB l).length=n by omega]
    have hlr:(En (dedB l++List.replicate (n - (dedB l).length) ([]:Bytes))).length=n:=by simp; omega
    simp [pop,ab,hrn2,hE,hset,show (dedB l).length≤n by omega,show (dedB l).length+(n - (dedB l).length)=n by omega]
    simp [a0,a3,sliceP,hrn2,hlr,show (dedB l).length≤n by omega]
    exact hret _ a1 (by simp) (by simp [hrn2]) (by simpa using aN) (fun i hi hne=>by simp [aN,hi,hne,af i hi hne]) (by simpa using aw)
   ·rw [if_neg e] at hd2
    have e':¬ q=p:=fun h=>e h.symm
    simp [L174_1,h3,h0,c1,c2,w1,w2,hb,hrn',l1,l2,e',evBin_seql]
    refine cpb_loop0 hn hm rest (i+1) _ hr' (by omega) (by omega) (by rw [show i+1=s+2 by omega,hd2,t2,hs,t1]; simp) (by simp [h0]) (by simp) (by simp [hb,hrn']) (by simpa using hN) hrn (fun i hi hne=>by simp [hN,hi,hf i hi hne]) hw hend hret
structure CEndB (H:Heap) (N:Nat) (l:List Bytes) (s:St):Prop where
 v:∃ v0 is,s.σ 2=v0∧expV s.h v0=some (.im (En (dedB l)) false,is)∧∀ i∈is,N≤i
 n:s.h.n=H.n
 f:∀ i,i < N→i < H.n→s.h.at_ i=H.at_ i
 w:∀ i∈s.wl,N≤i
 b:((s.wl.filter (· < H.n)).all fun i=>(s.h.at_ i).below H.n)=true
theorem below_B {n:Nat}:∀ l:List Bytes,(Blk.row 1 (En l) true).below n=true:=fun l=>by
 simp [Blk.below,En]
 exact fun _ _=>rfl
theorem exp_rowB {H:Heap} {r n:Nat} {ys:List Bytes} {xs:List (List PV)} (hb:H.at_ r = .row 1 xs true) (hn:xs.length=n) (hm:ys.length≤n) (ht:xs.take ys.length=En ys):expV H (.sl r 1 n 0 ys.length)=some (.im (En ys) false,[r]):=by
 have hp:=plainss_En ys
 simp [hb,hn,hm,ht,hp]
theorem compactB_IC {H:Heap} {N:Nat} {x:PV} {l:List Bytes} {K:PV→Heap→List Nat→Prop} (h:FN N H 1 x (En l)) (hm:l.length≤most) (hK:∀ H' wl,H'.n=H.n→(∀ i,i < N→i < H.n→H'.at_ i=H.at_ i)→(∀ i∈wl,N≤i)→K (.im (En (dedB l)) false) H' wl):IC (env P) 174 [x] H K:=by
 refine IC_of (cf:=c174) (fun _=>rfl) rfl ?_
 refine V_mono (K:=fun _ s=>CEndB H N l s) ?_ ?_
 ·cases h with
  | im hv h0 =>
    have hl:l=[]:=by cases l with
     | nil=>rfl
     | cons a l=>simp [En_cons] at h0
    subst hv hl
    simp [c174]
    exact ⟨⟨.im [] true,[],by simp,by simp [dedB],by simp⟩,by simp,fun i h1 h2=>by simp [h2],by simp,by simp⟩
  | row r hv hb hN hr hl =>
    subst hv
    by_cases h2:l.length < 2
    ·have h2':(l.length:Int) < 2:=by omega
     have hd:dedB l=l:=by
      match l,h2 with
      | [],_=>rfl
      | [a],_=>rfl
     simp [c174,h2']
     exact ⟨⟨.sl r 1 l.length 0 l.length,[r],by simp,by rw [hd]; exact exp_rowB (xs:=En l) (by simp [hb,hr]) (by simp) (Nat.le_refl _) (by rw [En_take,List.take_length]),by simp [hN]⟩,by simp,fun i h1 h2=>by simp [h2],by simp,by simp⟩
    ·have h2':¬ (l.length:Int) < 2:=by omega
     simp [c174,h2']
     have hM:most=68719476736:=rfl
     refine cpb_loop0 (l:=l) (r:=r) (n:=l.length) rfl hm (H:=H) (l.drop 1) 1 _ rfl (by omega) (by omega) ?_ (by simp) (by simp) (by simpa [hr] using hb) (by simp) hr (fun i hi hne=>by simp [hi]) (by simp) ?_ ?_
     ·cases l with
      | nil=>rfl
      | cons a l=>rfl
     ·intro st' e0 a0 ab aN af aw
      simp [a0]
      have hr2:r < st'.h.n:=by omega
      exact ⟨⟨.sl r 1 l.length 0 l.length,[r],by simp,by rw [e0]; exact exp_rowB (xs:=En l) (by simp [ab,hr2]) (by simp) (Nat.le_refl _) (by rw [En_take,List.take_length]),by simp [hN]⟩,by simpa using aN,fun i h1 h2=>by simp [aN,h2,af i h2 (by omega)],fun i hi=>by rw [aw i (by simpa using hi)]; exact hN,by
       simp only [List.all_eq_true,List.mem_filter]
       rintro i ⟨hi,_⟩
       rw [aw i (by simpa using hi)]
       simp only [at_grow,at_put]
       rw [if_pos hr2,ab]
       exact below_B _⟩
     ·intro st' e0 a2 ab aN af aw
      have hr2:r < st'.h.n:=by omega
      refine ⟨⟨.sl r 1 l.length 0 (dedB l).length,[r],a2,exp_rowB (xs:=En (dedB l++List.replicate (l.length - (dedB l).length) ([]:Bytes))) ab (by simp; omega) (by omega) (by rw [En_take,List.take_append_of_le_length (Nat.le_refl _),List.take_length]),by simp [hN]⟩,aN,fun i h1 h2=>af i h2 (by omega),fun i hi=>by rw [aw i hi]; exact hN,?_⟩
      simp only [List.all_eq_true,List.mem_filter]
      rintro i ⟨hi,_⟩
      rw [aw i hi,ab]
      exact below_B _
 ·rintro e s ⟨⟨v0,is,v1,v2,v3⟩,n,f,w,b⟩
  refine ⟨.im (En (dedB l)) false,is,?_,b,?_⟩
  ·show (resV s [.tmp 2]).bind (expV s.h)=_
   rw [show resV s [.tmp 2]=some (s.σ 2) from rfl,v1]
   exact v2
  ·split
   ·refine hK _ _ rfl (fun i h1 h2=>?_) (fun i hi=>w i (List.mem_filter.1 hi).1)
    show (if i < H.n then s.h.at_ i else H.at_ i)=_
    rw [if_pos h2,f i h1 h2]
   ·refine hK _ _ (by rw [freeze_n]; rfl) (fun i h1 h2=>?_) (fun i hi=>?_)
    ·rw [freeze_at,if_neg]
     ·show (if i < H.n then s.h.at_ i else H.at_ i)=_
      rw [if_pos h2,f i h1 h2]
     ·intro hi
      have:=v3 i (List.mem_filter.1 hi).1
      omega
    ·rcases List.mem_append.1 hi with hi | hi
     ·exact w i (List.mem_filter.1 hi).1
     ·exact v3 i (List.mem_filter.1 hi).1
end Go.Evl.Zone

namespace Go.Evl.Zone
open Go Go.Evl
variable {P:Program}
abbrev idSrt (l:List Bytes):Prop:=Srt cmpB (fun a:Bytes=>a) l
theorem bsB_loop (T:TB P) {l:List Bytes} {n:Bytes} (hm:Mono (fun a=>cmpB a n) l) (hL:l.length≤most) {ks:List Fr'} {K:Ex→St→Prop} :
  ∀ (d i j:Nat) (st:St),j - i=d→i≤lbN (fun a=>cmpB a n) l→lbN (fun a=>cmpB a n) l≤j→j≤l.length→st.σ 0=lv l→st.σ 1=sv n→st.σ 2 = .fn 92 []→st.σ 9=iv i→st.σ 10=iv j→st.σ 8=iv l.length →
  (∀ st',st'.σ 9=iv (lbN (fun a=>cmpB a n) l)→st'.σ 0=lv l→st'.σ 1=sv n→st'.σ 2 = .fn 92 []→st'.σ 8=iv l.length→VN (env P) 126 st' ks K)→V (env P) 126 (.loop L126_0) st (.blk 0::ks) K:=by
 intro d
 induction d using Nat.strongRecOn with
 | ind d ih =>
   intro i j st hd hi hj hjl h0 h1 h2 h9 h10 h8 hend
   have hL2:l.length≤68719476736:=hL
   rw [V_loop]
   by_cases hij:i < j
   ·obtain ⟨m,hm0⟩:∃ m,m=(i+j) / 2:=⟨_,rfl⟩
    have hmj:m < j:=by omega
    have him:i≤m:=by omega
    have hml:m < l.length:=by omega
    obtain ⟨a,ha⟩:∃ a,l[m]?=some a:=⟨_,List.getElem?_eq_getElem hml⟩
    have hij':(i:Int) < (j:Int):=by omega
    have w1:IntKind.i64.wrap ((i:Int)+(j:Int))=(i:Int)+(j:Int):=wrap64_id (by omega)
    have q1:=cvU T (n:=(i:Int)+(j:Int)) (by omega) (by omega)
    have q2:=fun t cx cy=>@shr1 P ((i:Int)+(j:Int)) (by omega) t cx cy
    have e2:((i:Int)+(j:Int)) / 2=(m:Int):=by omega
    have q3:=cvI T (n:=(m:Int)) (by omega) (by omega)
    have hc:=En_at ha
    have kl:=idCompare_ans (P:=P) (a:=a) (b:=n)
    by_cases hcc:cmpB a n < 0
    ·have hcm:=lbN_gt l m a hm ha hcc
     have w2:IntKind.i64.wrap ((m:Int)+1)=(m:Int)+1:=wrap64_id (by omega)
     simp [L126_0,h0,h1,h2,h9,h10,hij',w1,q1,q2,e2,q3,hml,hc,allLen_En]
     rw [VA_ownT (g:=92) (by simp [h2]) rfl rfl]
     simp [kl,hcc,w2]
     exact ih (j - (m+1)) (by omega) (m+1) j _ rfl (by omega) hj hjl (by simp [h0]) (by simp [h1]) (by simp [h2]) (by simp) (by simp [h10]) (by simp [h8]) hend
    ·have hcm:=lbN_ge (c:=fun a=>cmpB a n) l m a ha hcc
     simp [L126_0,h0,h1,h2,h9,h10,hij',w1,q1,q2,e2,q3,hml,hc,allLen_En]
     rw [VA_ownT (g:=92) (by simp [h2]) rfl rfl]
     simp [kl,hcc]
     exact ih (m - i) (by omega) i m _ rfl hi hcm (by omega) (by simp [h0]) (by simp [h1]) (by simp [h2]) (by simp [h9]) (by simp) (by simp [h8]) hend
   ·have hij':¬ (i:Int) < (j:Int):=by omega
    obtain rfl:i=lbN (fun a=>cmpB a n) l:=by omega
    simp [L126_0,h9,h10,hij']
    exact hend _ (by simp [h9]) (by simp [h0]) (by simp [h1]) (by simp [h2]) (by simp [h8])
theorem fnd_memB {l:List Bytes} {n:Bytes} (hs:idSrt l):fnd (fun a=>cmpB a n) l=decide (n∈l):=by
 have h:=get_fnd cmpB_ok n hs
 cases hg:getA (fun n:Bytes=>n) l n with
 | none =>
   rw [hg] at h
   have hn:=get_none hg
   rw [show fnd (fun a=>cmpB a n) l=false from h]
   have:n∉l:=fun hm=>hn n hm rfl
   simp [this]
 | some a =>
   rw [hg] at h
   obtain ⟨h1,h2⟩:=get_mem hg
   subst h2
   rw [show fnd (fun b=>cmpB b a) l=true from h.2]
   simp [h1]
theorem bsB_ans (T:TB P) {l:List Bytes} {n:Bytes} (hs:idSrt l) (hL:l.length≤most):ans (env P) 126 [lv l,sv n,.fn 92 []]=some (.tup [iv (lbN (fun a=>cmpB a n) l),bv (decide (n∈l))]):=by
 rw [← fnd_memB hs]
 have hm:Mono (fun a=>cmpB a n) l:=Srt.mono cmpB_ok n hs
 have hlb:=lbN_le (c:=fun a=>cmpB a n) l
 refine ans_V rfl rfl ?_
 simp [c126]
 refine bsB_loop T hm hL l.length 0 l.length _ rfl (by omega) hlb (Nat.le_refl _) (by simp) (by simp) (by simp) (by simp) (by simp) (by simp) fun st' h9 h0 h1 h2 h8=>?_
 generalize hb:lbN (fun a=>cmpB a n) l=b at *
 by_cases hl:b < l.length
 ·obtain ⟨a,ha⟩:∃ a,l[b]?=some a:=⟨_,List.getElem?_eq_getElem hl⟩
  have hc:=En_at ha
  have hl':(b:Int) < (l.length:Int):=by omega
  have kl:=idCompare_ans (P:=P) (a:=a) (b:=n)
  have hf:fnd (fun a=>cmpB a n) l=decide (cmpB a n=0):=by
   unfold fnd
   rw [hb,ha]
  simp [h9,h0,h1,h2,h8,hl',hl,hc,hf,allLen_En]
  rw [VA_ownT (g:=92) (by simp [h2]) rfl rfl]
  simp [kl,resV,resP]
 ·have hl':¬ (b:Int) < (l.length:Int):=by omega
  have hf:fnd (fun a=>cmpB a n) l=false:=by
   unfold fnd
   rw [hb,List.getElem?_eq_none (by omega)]
  simp [h9,h0,h1,h2,h8,hl',hl,hf,resV,resP]
theorem idHas_ans (T:TB P) {l:List Bytes} {n:Bytes} (hs:idSrt l) (hL:l.length≤most):ans (env P) 52 [lv l,sv n]=some (bv (decide (n∈l))):=by
 have k:=bsB_ans (P:=P) (n:=n) T hs hL
 refine ans_V rfl rfl ?_
 simp [c52,k]
end Go.Evl.Zone

namespace Go.Evl.Zone
open Go Go.Evl
variable {P:Program}
theorem mem_dedB {n:Bytes}:∀ l:List Bytes,n∈dedB l↔n∈l
 | []=>Iff.rfl
 | [a]=>Iff.rfl
 | a::b::l=>by
   unfold dedB
   split
   ·rename_i h
    rw [mem_dedB (b::l),h]
    simp
   ·rw [List.mem_cons,mem_dedB (b::l),← List.mem_cons]
theorem leB_lt {a b:Bytes} (h:leB a b) (hn:a≠b):cmpB a b < 0:=by
 rcases Int.lt_trichotomy (cmpB a b) 0 with k | k | k
 ·exact k
 ·exact (hn (cmp_zero _ _ k)).elim
 ·exact (h (cmp_anti _ _ k)).elim
theorem dedB_srt:∀ l:List Bytes,l.Pairwise leB→idSrt (dedB l)
 | [],_=>List.Pairwise.nil
 | [a],_=>by simp [dedB,Srt]
 | a::b::l,h=>by
   obtain ⟨h1,h2⟩:=List.pairwise_cons.1 h
   have ih:=dedB_srt (b::l) h2
   unfold dedB
   split
   ·exact ih
   ·rename_i hne
    refine List.pairwise_cons.2 ⟨fun c hc=>?_,ih⟩
    rw [mem_dedB] at hc
    have hab:=leB_lt (h1 b (by simp)) hne
    rcases List.mem_cons.1 hc with rfl | hc
    ·exact hab
    ·have hbc:=(List.pairwise_cons.1 h2).1 c hc
     by_cases e:b=c
     ·subst e; exact hab
     ·exact cmp_trans _ _ _ hab (leB_lt hbc e)
def uniB (a b:List Bytes):List Bytes:=dedB (sortB (a++b))
theorem mem_uniB {a b:List Bytes} {n:Bytes}:n∈uniB a b↔n∈a∨n∈b:=by
 unfold uniB
 rw [mem_dedB,(sortB_perm _).mem_iff,List.mem_append]
theorem uniB_srt (a b:List Bytes):idSrt (uniB a b):=dedB_srt _ (sortB_sorted _)
theorem uniB_is {a b l:List Bytes} (h:idSrt l) (hm:∀ n,n∈l↔n∈a∨n∈b):l=uniB a b:=srt_ext cmpB_ok h (uniB_srt a b) fun n=>by rw [hm,mem_uniB]
theorem idUnion_ans {a b:List Bytes} (hL:a.length+b.length≤most):ans (env P) 112 [lv a,lv b]=some (lv (uniB a b)):=by
 have c1:=fun {dst:Option Nat} {rest:List CI} {i slot slot':Nat} {log:Log} {d:Dr} {K:Ex→St→Prop} {st:St} {ks:List Fr'} {xs:List O}=>VA_prim (E:=env P) (f:=112) (g:=173) (p:=pSortS 92) (dst:=dst) (rest:=rest) (i:=i) (slot:=slot) (slot':=slot') (log:=log) (d:=d) (K:=K) (st:=st) (ks:=ks) (xs:=xs) rfl
 refine ans_V rfl rfl ?_
 refine V_mono (K:=fun _ s=>s.σ 4=lv (uniB a b)) ?_ fun e s h=>⟨[],by simp [c112,resV,resP,h]⟩
 simp [c112]
 refine VA_keep (g:=172) (caps:=[]) rfl rfl ?_
 simp [chunks]
 refine concatB_KC (a:=a) (b:=b) (f1:=false) (f2:=false) (f3:=true) hL fun x H1 wl1 e1 e2 e3 e4=>?_
 obtain ⟨H2,wr2,s1,s2,s3,s4,s5⟩:=sortB_FN (e1.grow (m:=0)) (by simpa using hL)
 simp at s1 s2
 simp [c1,s1]
 refine VA_inl (g:=174) (caps:=[]) rfl rfl ?_
 simp
 refine compactB_IC (N:=0) (l:=sortB (a++b)) (by repeat (first | exact s2 | refine FN.grow ?_)) (by rw [sortB_len]; simpa using hL) fun H3 wl3 t1 t2 t3=>?_
 simp
 try rfl
theorem idAdd_ans {a:List Bytes} {b:Bytes} (hL:a.length+1≤most):ans (env P) 84 [lv a,sv b]=some (lv (uniB a [b])):=by
 have k:ans (env P) 112 [lv a,.im [[sv b]] false]=some (lv (uniB a [b])):=idUnion_ans (P:=P) (a:=a) (b:=[b]) (by simpa using hL)
 refine ans_V rfl rfl ?_
 simp [c84,chunks,k]
end Go.Evl.Zone

namespace Go.Evl.Zone
open Go Go.Evl
variable {P:Program}
theorem swapB {L1 L2:List Bytes} {x y:Bytes}:(((L1++[y])++x::L2).set L1.length x).set (L1.length+1) y=L1++x::y::L2:=by
 simp [List.set_append_right]
theorem r1U_inner {x:Bytes} (hx:x.length≤big) {r m:Nat} (hm:m≤most) {ks:List Fr'} {K:Ex→St→Prop}:∀ (n:Nat) (L1 L2:List Bytes) (st:St),L1.length=n→L1.length+L2.length+1=m→(∀ q∈L1,q.length≤big∧q≠x)→st.σ 5 = .sl r 1 m 0 m→st.h.at_ r = .row 1 (En (L1++x::L2)) true→r < st.h.n→st.σ 8=iv L1.length→(∀ z,L2.head?=some z→cmpB x z < 0) →
  (∀ st' L1' L2',L1'++L2'=L1++L2→(∀ y,lastP none L1'=some y→cmpB y x < 0)→(∀ z,L2'.head?=some z→cmpB x z < 0)→st'.σ 5 = .sl r 1 m 0 m→st'.h.at_ r = .row 1 (En (L1'++x::L2')) true→st'.σ 6=st.σ 6→st'.σ 7=st.σ 7→st'.h.n=st.h.n→(∀ i,i < st.h.n→i≠r→st'.h.at_ i=st.h.at_ i)→VN (env P) 34 st' ks K)→V (env P) 34 (.loop L34_0) st (.blk 2::ks) K
 | 0,L1,L2,st,hn,hlm,hids,h5,hb,hr,h8,h2,hend=>by
   obtain rfl:L1=[]:=List.length_eq_zero_iff.1 hn
   rw [V_loop]
   simp [L34_0,h5,h8]
   exact hend _ [] L2 rfl (by simp [lastP]) h2 (by simp [h5]) (by simpa [hr] using hb) (by simp) (by simp) (by simp) (fun i hi hne=>by simp [hi])
 | n+1,L1,L2,st,hn,hlm,hids,h5,hb,hr,h8,h2,hend=>by
   obtain ⟨L1,y,rfl⟩:∃ L y,L1=L++[y]:=by
    rcases List.eq_nil_or_concat L1 with h | ⟨L,y,h⟩
    ·rw [h] at hn; simp at hn
    ·exact ⟨L,y,by simpa using h⟩
   have hn':L1.length=n:=by simpa using hn
   have hlm':n+L2.length+2=m:=by simp at hlm; omega
   have hy:=hids y (by simp)
   have hk:=r1Compare_ans (P:=P) (s:=y) (t:=x) hy.1 hx
   have hM:most=68719476736:=rfl
   have wn:IntKind.i64.wrap (n:Int)=(n:Int):=wrap64_id (by omega)
   have hi':st.σ 8=iv ((n:Int)+1):=by rw [h8]; simp [hn']
   have b2:(0:Int)≤(n:Int)+1:=by omega
   have b3:((n:Int)+1).toNat=n+1:=by omega
   have b0:n < m:=by omega
   have b1:n+1 < m:=by omega
   have b4:(n:Int)+1 < (m:Int):=by omega
   have b5:(0:Int) < (n:Int)+1:=by omega
   have hsw:=swapB (L1:=L1) (L2:=L2) (x:=x) (y:=y)
   rw [hn'] at hsw
   obtain ⟨X,hX⟩:∃ X,X=(L1++[y])++x::L2:=⟨_,rfl⟩
   rw [← hX] at hb hsw
   have hXl:X.length=m:=by rw [hX]; simp; omega
   have gy:X[n]?=some y:=by rw [hX]; simp [← hn']
   have gx:X[n+1]?=some x:=by rw [hX]; simp [← hn']
   have l1:=loadR_B (r:=r) hXl gy
   have l2:=loadR_B (r:=r) hXl gx
   have s1:=fun H=>storeR_B (H:=H) (r:=r) (q:=x) hXl b0
   have s2:=fun H=>storeR_B (H:=H) (X:=X.set n x) (r:=r) (q:=y) (by simpa using hXl) b1
   rw [hsw] at s2
   rw [V_loop]
   by_cases hc:0 < cmpB y x
   ·simp [L34_0,h5,hi',hk,hb,hr,wn,b0,b1,b2,b3,b4,b5,l1,l2,hc,s1,s2]
    refine r1U_inner hx hm n L1 (y::L2) _ hn' (by simp; omega) (fun q hq=>hids q (by simp [hq])) (by simp [h5]) (by simp [hr]) (by simpa using hr) (by simp [hn']) (fun z hz=>?_) fun st' L1' L2' e1 e2 e3 e4 e5 e6 e7 e8 e9=>hend st' L1' L2' (by simpa using e1) e2 e3 e4 e5 (by simpa using e6) (by simpa using e7) (by simpa using e8) (fun i hi hne=>by rw [e9 i (by simpa using hi) hne]; simp [hi,hne])
    obtain rfl:y=z:=by simpa using hz
    exact cmp_anti _ _ hc
   ·simp [L34_0,h5,hi',hk,hb,hr,wn,b0,b1,b2,b3,b4,b5,l1,l2,hc]
    refine hend _ (L1++[y]) L2 rfl (fun z hz=>?_) h2 (by simp [h5]) (by simp [hr,hb,hX]) (by simp) (by simp) (by simp) (fun i hi hne=>by simp [hi])
    rw [lastP_some] at hz
    obtain rfl:y=z:=by simpa using hz
    have h3:cmpB y x≠0:=fun h=>hy.2 (cmp_zero y x h)
    omega
theorem r1U_loop {all:List Bytes} {r2 N:Nat} (hall:∀ q∈all,q.length≤big) (hL:all.length≤most) {ks:List Fr'} {K:Ex→St→Prop}:∀ (rest:List Bytes) (i:Nat) (st:St) (x:PV) (L:List Bytes),all.drop i=rest→i≤all.length→(rest=[]∨(st.σ 6 = .sl r2 1 all.length 0 all.length∧st.h.at_ r2 = .row 1 (En all) true∧r2 < N))→lenP false (st.σ 6)=some all.length→st.σ 7=iv i→st.σ 5=x→FN N st.h 1 x (En L)→idSrt L→(∀ q∈L,q.length≤big)→L.length≤i→N≤st.h.n →
  (∀ st' x L',st'.σ 5=x→FN N st'.h 1 x (En L')→idSrt L'→(∀ q,q∈L'↔q∈L∨q∈rest)→L'.length≤all.length→VN (env P) 34 st' ks K)→V (env P) 34 (.loop L34_1) st (.blk 0::ks) K
 | [],i,st,x,L,hr,hi,h6,hlen,h7,h5,hF,hs,hb,hLi,hN,hend=>by
   obtain ⟨hii,hlt,hd⟩:=drop_nil hr hi
   rw [V_loop]
   simp [L34_1,h7,hlen,hlt]
   exact hend _ x L (by simp [h5]) hF.grow hs (by simp) (by omega)
 | q::rest,i,st,x,L,hr,hi,h6,hlen,h7,h5,hF,hs,hb,hLi,hN,hend=>by
   obtain ⟨hq,hlt,hr',hi'⟩:=drop_cons hr
   obtain ⟨h6,hb2,hr2⟩:st.σ 6 = .sl r2 1 all.length 0 all.length∧st.h.at_ r2 = .row 1 (En all) true∧r2 < N:=h6.resolve_left (by simp)
   have hM:most=68719476736:=rfl
   have wi:IntKind.i64.wrap ((i:Int)+1)=((i+1:Nat):Int):=by rw [wrap64_id (by omega)]; rfl
   have l1:=loadR_B (r:=r2) rfl hq
   have hr2n:r2 < st.h.n:=by omega
   have kH:=r1Has_ans (P:=P) (L:=L) (a:=q) (by omega)
   have hql:=hall q (List.mem_of_getElem? hq)
   rw [V_loop]
   cases hF with
   | im hv h0 =>
     have hL0:L=[]:=by cases L with
      | nil=>rfl
      | cons a l=>simp [En_cons] at h0
     subst hv hL0
     have kH:ans (env P) 105 [.im [] false,sv q]=some (bv false):=kH
     simp [L34_1,h7,h6,hlt,h5,hb2,hr2n,l1,kH,chunks,elems,allLen,appendP,most]
     refine r1U_inner (x:=q) hql (r:=st.h.n) (m:=1) (by unfold most; omega) 0 [] [] _ rfl rfl (by simp) (by simp) (by simp [En,Enc.c]) (by simp) (by simp [IntKind.i64,wrap64_id]) (by simp) fun st' L1 L2 u1 u2 u3 u4 u5 u6 u7 u8 u9=>?_
     obtain ⟨rfl,rfl⟩:L1=[]∧L2=[]:=by simpa using u1
     simp [u7,h7,wi]
     refine r1U_loop hall hL rest (i+1) _ _ [q] hr' (by omega) (.inr ⟨by simp [u6,h6],by simp [u8,show r2 < st.h.n+1 by omega]; rw [u9 r2 (by simp; omega) (by omega)]; simp [hr2n,show ¬ r2=st.h.n by omega,show r2 < st.h.n+1 by omega,hb2],hr2⟩) (by simp [u6,h6]) (by simp) rfl (.row st.h.n (by simp [u4]) (by simpa [u8] using u5) hN (by simp [u8]) (by simp [allLen,En,Enc.c])) (by simp [Srt]) (by simpa using hql) (by simp) (by simp [u8]; omega) fun st' x L' g1 g2 g3 g4 g5=>hend st' x L' g1 g2 g3 (fun z=>by rw [g4 z]; simp) g5
   | row r hv hbr hNr hrn hl =>
     subst hv
     have hne:¬ r2=r:=by omega
     have hpl:plainss (En L)=some (En L):=plainss_En L
     have htk:List.take L.length (En L)=En L:=by have:=List.take_length (l:=En L); simpa using this
     simp at hbr hl
     by_cases hm:q∈L
     ·simp only [hm,decide_true] at kH
      simp [L34_1,h7,h6,hlt,h5,hb2,hr2n,l1,hbr,hrn,hpl,htk,kH,wi]
      refine r1U_loop hall hL rest (i+1) _ _ L hr' (by omega) (.inr ⟨by simp [h6],by simp [hr2n,hb2],hr2⟩) (by simp [h6]) (by simp) rfl (.row r (by simp [h5]) (by simp [hrn,hbr]) hNr (by simpa using hrn) (by simpa using hl)) hs hb (by omega) (by simpa using hN) fun st' x L' g1 g2 g3 g4 g5=>hend st' x L' g1 g2 g3 (fun z=>by
       rw [g4 z,List.mem_cons]
       constructor
       ·rintro (h | h)
        ·exact .inl h
        ·exact .inr (.inr h)
       ·rintro (h | h | h)
        ·exact .inl h
        ·exact .inl (h▸hm)
        ·exact .inr h) g5
     ·simp only [hm,decide_false] at kH
      have hLm:L.length < 68719476736:=by omega
      have wL:IntKind.i64.wrap (L.length:Int)=(L.length:Int):=wrap64_id (by omega)
      have hEa:En L++[[sv q]]=En (L++q::[]):=by rw [En_append,En_one]; rfl
      simp [L34_1,h7,h6,hlt,h5,hb2,hr2n,l1,hbr,hrn,hpl,htk,kH,chunks,elems,allLen,appendP,show L.length+1≤most by omega,show ¬ L.length+1≤L.length by omega,hEa,wL,hne]
      refine r1U_inner (x:=q) hql (r:=r) (m:=L.length+1) (by omega) L.length L [] _ rfl (by simp) (fun z hz=>⟨hb z hz,fun e=>hm (e▸hz)⟩) (by simp) (by simp [show r < st.h.n+1 by omega]) (by simp; omega) (by simp) (by simp) fun st' L1 L2 u1 u2 u3 u4 u5 u6 u7 u8 u9=>?_
      have hput:=put_of cmpB_ok (key:=fun a:Bytes=>a) (x:=q) hs (L1:=L1) (L2:=L2) (by
       rw [u1,List.append_nil]
       exact (List.filter_eq_self.2 fun z hz=>by simpa using fun e:z=q=>hm (e▸hz)).symm) u2 u3
      rw [hput] at u5
      have hpl2:(putA cmpB (fun a:Bytes=>a) q L).length=L.length+1:=by
       rw [← hput]
       have:=congrArg List.length u1
       simp at this ⊢
       omega
      simp [u7,h7,wi]
      refine r1U_loop hall hL rest (i+1) _ _ (putA cmpB (fun a:Bytes=>a) q L) hr' (by omega) (.inr ⟨by simp [u6,h6],by simp [u8,show r2 < st.h.n+1 by omega]; rw [u9 r2 (by simp; omega) (by omega)]; simp [hr2n,hne,show r2 < st.h.n+1 by omega,hb2],hr2⟩) (by simp [u6,h6]) (by simp) rfl (.row r (by simp [u4,hpl2]) (by simpa [u8,show r < st.h.n+1 by omega] using u5) hNr (by simp [u8]; omega) (by exact allLen_En (α:=Bytes) rfl _)) (srt_put cmpB_ok hs) (fun z hz=>?_) (by rw [hpl2]; omega) (by simp [u8]; omega) fun st' x L' g1 g2 g3 g4 g5=>hend st' x L' g1 g2 g3 (fun z=>by
       rw [g4 z,mem_put cmpB_ok hs,List.mem_cons]
       constructor
       ·rintro ((h | h) | h)
        ·exact .inr (.inl h)
        ·exact .inl h.1
        ·exact .inr (.inr h)
       ·rintro (h | h | h)
        ·by_cases e:z=q
         ·exact .inl (.inl e)
         ·exact .inl (.inr ⟨h,e⟩)
        ·exact .inl (.inl h)
        ·exact .inr h) g5
      rcases (mem_put cmpB_ok hs).1 hz with rfl | h
      ·exact hql
      ·exact hb z h.1
theorem app2_FN {H:Heap} {a b:List Bytes} (hd0:H.at_ 0 = .dead) (hd1:H.at_ 1 = .dead) (hn:1 < H.n) (hL:a.length+b.length≤most):∃ v1 H1 w1 r1,appendP H 0 1 (.im [] true) (En a)=some (v1,H1,w1,r1)∧∃ v2 H2 w2 r2,appendP H1 1 1 v1 (En b)=some (v2,H2,w2,r2)∧FN 0 H2 1 v2 (En (a++b))∧H2.n=H.n:=by
 have la:allLen 1 (En a)=true:=allLen_En (α:=Bytes) rfl a
 have lb:allLen 1 (En b)=true:=allLen_En (α:=Bytes) rfl b
 by_cases ha:a=[]
 ·subst ha
  refine ⟨.im [] true,H,[],[],by simp [appendP],?_⟩
  obtain ⟨v2,H2,w2,r2,e1,e2,e3,_⟩:=FN.app (N:=0) (H:=H) (slot:=1) (k:=1) (v:=.im [] true) (ys:=[]) (zs:=En b) (.im rfl rfl) hd1 hn (by omega) lb (by simpa using hL)
  exact ⟨v2,H2,w2,r2,e1,by simpa using e2,e3⟩
 ·have ha0:¬ a.length=0:=fun e=>ha (List.length_eq_zero_iff.1 e)
  refine ⟨.sl 0 1 a.length 0 a.length,H.put 0 (.row 1 (En a) true),[0],[],?_,?_⟩
  ·have:a.length≤most:=by omega
   simp [appendP,ha,this,allLen]
  ·obtain ⟨v2,H2,w2,r2,e1,e2,e3,_⟩:=FN.app (N:=0) (H:=H.put 0 (.row 1 (En a) true)) (slot:=1) (k:=1) (v:=.sl 0 1 a.length 0 a.length) (ys:=En a) (zs:=En b) (.row 0 (by simp) (by simp) (by omega) (by simp; omega) la) (by simpa using hd1) (by simpa using hn) (by omega) lb (by simpa using hL)
   exact ⟨v2,H2,w2,r2,e1,by rw [En_append]; exact e2,by simpa using e3⟩
theorem r1Union_ans {a b:List Bytes} (ha:∀ q∈a,q.length≤big) (hb:∀ q∈b,q.length≤big) (hL:a.length+b.length≤most):ans (env P) 34 [lv a,lv b]=some (lv (uniB a b)):=by
 have hall:∀ q∈a++b,q.length≤big:=fun q hq=>(List.mem_append.1 hq).elim (ha q) (hb q)
 refine ans_V rfl rfl ?_
 refine V_mono (K:=fun _ s=>∃ is,expV s.h (s.σ 4)=some (lv (uniB a b),is)) ?_ fun e s ⟨is,h⟩=>⟨is,by simpa [c34,resV,resP] using h⟩
 obtain ⟨v1,H1,w1,r1,e1,v2,H2,w2,r2,e2,e3,e4⟩:=app2_FN (H:=((Heap.empty.grow 0).grow 0).grow 2) (a:=a) (b:=b) (by simp) (by simp) (by simp) hL
 simp at e1 e4
 simp [-expV,c34,chunks,elems,allLen_En,e1,e2]
 have hlen:lenP false v2=some (a++b).length:=by rw [e3.ln.l.len]; simp
 obtain ⟨q2,hq⟩:∃ q2,a++b=[]∨(v2 = .sl q2 1 (a++b).length 0 (a++b).length∧H2.at_ q2 = .row 1 (En (a++b)) true∧q2 < H2.n):=by
  cases e3 with
  | im hv h0 =>
    refine ⟨0,.inl ?_⟩
    cases hab:a++b with
    | nil=>rfl
    | cons z l=>rw [hab] at h0; simp [En_cons] at h0
  | row r hv hbr hNr hrn hl=>exact ⟨r,.inr ⟨by simpa using hv,hbr,hrn⟩⟩
 refine r1U_loop (all:=a++b) (r2:=q2) (N:=H2.n) hall (by simpa using hL) (a++b) 0 _ (.im [] true) [] rfl (by omega) (hq.imp id fun ⟨hv,hbr,hrn⟩=>⟨by simpa using hv,by simp [hbr,hrn],hrn⟩) (by simpa using hlen) (by simp) (by simp) (.im rfl rfl) List.Pairwise.nil (by simp) (by simp) (by simp) fun st' x L' g1 g2 g3 g4 g5=>?_
 have hu:L'=uniB a b:=uniB_is g3 fun n=>by rw [g4 n]; simp
 subst hu
 obtain ⟨is,hx⟩:=(FN.grow (m:=0) g2).ln.l.expV (plainss_En _)
 simp [-expV,g1]
 exact ⟨is,hx⟩
end Go.Evl.Zone

namespace Go.Evl.Zone
open Go Go.Evl
variable {P:Program}
def kidI (a:Bytes) (k:Nat):Bytes:=a++[UInt8.ofNat (48+k)]
theorem idR_pos {a:Bytes} (h:idR a=true):1≤a.length:=by
 cases a with
 | nil=>simp [idR] at h
 | cons b r=>simp
theorem idR_big {a:Bytes} (h:idR a=true):a.length≤big:=by have:a.length≤6:=idR_len h; unfold big; omega
theorem idChild_ans (T:Typed P) {a:Bytes} {k:Nat} (ha:idR a=true) (hl:a.length < 6) (h1:1≤k) (h9:k≤9):ans (env P) 55 [sv a,iv k]=some (.tup [sv (kidI a k),iv 0]):=by
 have hR:=idRight_ans (P:=P) (s:=a)
 rw [ha] at hR
 have w1:IntKind.i64.wrap (48+(k:Int))=48+(k:Int):=wrap64_id (by omega)
 have w2:IntKind.u8.wrap (48+(k:Int))=48+(k:Int):=by show (48+(k:Int)) % 256=_; omega
 have cv:scal P (Go.convert 3 5 (.int .i64 (48+(k:Int))))=some (.val (.int .u8 (48+(k:Int)))):=by rw [cv_ii (by rw [T.t3]; rfl) T.t5,w2]
 have htn:(48+(k:Int)).toNat=48+k:=by omega
 obtain ⟨c,hc⟩:∃ c,c=UInt8.ofNat (48+k):=⟨_,rfl⟩
 have hk:kidI a k=a++[c]:=by rw [hc]; rfl
 have hb:bytesOf [[.val (.int .u8 (48+(k:Int)))]]=some [c]:=by rw [hc]; simp only [bytesOf,byteOf?,htn]
 have hadd:∀ t cx cy,evBin P .add t cx cy (sv a) (.val (.string ⟨#[c]⟩))=some (sv (a++[c])):=fun t cx cy=>evBin_sadd (P:=P) (t:=t) (cx:=cx) (cy:=cy) (a:=a) (b:=[c]) (by simp; omega)
 rw [hk]
 refine ans_V rfl rfl ?_
 simp [c55,hR,show ¬ (k:Int) < 1 by omega,show ¬ (9:Int) < k by omega,sv_size,show ¬ a.length=6 by omega,show ¬ (a.length:Int)=6 by omega,w1,cv,chunks,elems,allLen,hb,hadd,resV,resP]
theorem idChild_full {a:Bytes} {k:Int} (ha:idR a=true) (h1:1≤k) (hf:9 < k∨a.length=6):∃ e,e≠0∧ans (env P) 55 [sv a,iv k]=some (.tup [sv [],iv e]):=by
 have hR:=idRight_ans (P:=P) (s:=a)
 rw [ha] at hR
 by_cases h9:9 < k
 ·refine ⟨1,by decide,ans_V rfl rfl ?_⟩
  simp [c55,hR,show ¬ k < 1 by omega,h9,resV,resP]
 ·have hl:a.length=6:=hf.resolve_left h9
  refine ⟨18,by decide,ans_V rfl rfl ?_⟩
  simp [c55,hR,show ¬ k < 1 by omega,h9,sv_size,hl,resV,resP]
theorem r1Child_ans {a:Bytes} {k:Nat} (ha:idR a=true) (hl:a.length < 6) (h1:1≤k) (h9:k≤9):ans (env P) 130 [sv a,iv k]=some (.tup [sv (kidI a k),iv 0]):=by
 have hR:=r1Right_ans (P:=P) (s:=a)
 rw [ha] at hR
 have w1:IntKind.i64.wrap ((k:Int)+1)=(k:Int)+1:=wrap64_id (by omega)
 obtain ⟨c,hc⟩:∃ c,c=UInt8.ofNat (48+k):=⟨_,rfl⟩
 have hk:kidI a k=a++[c]:=by rw [hc]; rfl
 have hadd:=fun t cx cy=>evBin_sadd (P:=P) (t:=t) (cx:=cx) (cy:=cy) (a:=a) (b:=[c]) (by simp; omega)
 rw [hk]
 have hs:=fun H=>sv_slice (H:=H) (l:=[48,49,50,51,52,53,54,55,56,57]) (a:=k) (b:=k+1) (by omega) (by simp; omega)
 have hd:((([48,49,50,51,52,53,54,55,56,57]:List UInt8).drop k).take (k+1 - k))=[UInt8.ofNat (48+k)]:=by
  obtain rfl | rfl | rfl | rfl | rfl | rfl | rfl | rfl | rfl:k=1∨k=2∨k=3∨k=4∨k=5∨k=6∨k=7∨k=8∨k=9:=by omega
  all_goals rfl
 simp only [hd,← hc] at hs
 refine ans_V rfl rfl ?_
 simp [c130,hR,show ¬ (k:Int) < 1 by omega,show ¬ (9:Int) < k by omega,sv_size,show ¬ a.length=6 by omega,show ¬ (a.length:Int)=6 by omega,w1,show (0:Int)≤(k:Int)+1 by omega,show ((k:Int)+1).toNat=k+1 by omega,hs,hadd,resV,resP]
theorem idParent_ans {a:Bytes} (ha:idR a=true):ans (env P) 54 [sv a]=some (if a=[48] then .tup [sv [],iv 14] else .tup [sv (a.take (a.length - 1)),iv 0]):=by
 have hR:=idRight_ans (P:=P) (s:=a)
 rw [ha] at hR
 have hl0:=idR_pos ha
 have hl1:a.length≤6:=idR_len ha
 have hs:=fun t cx cy=>evBin_seql (P:=P) (t:=t) (cx:=cx) (cy:=cy) a [48]
 refine ans_V rfl rfl ?_
 by_cases e:a=[48]
 ·subst e
  simp at hs
  simp [c54,hR,hs,resV,resP]
 ·simp only [e,decide_false] at hs
  have w1:IntKind.i64.wrap ((a.length:Int) - 1)=((a.length - 1:Nat):Int):=by rw [wrap64_id (by omega)]; omega
  have hsl:=fun H=>sv_slice (H:=H) (l:=a) (a:=0) (b:=a.length - 1) (by omega) (by omega)
  have hsl2:∀ H:Heap,sliceP H 0 (sv a) none (some (a.length - 1)) none=some (sv (a.take (a.length - 1)),[]):=fun H=>by
   have:=hsl H
   simp only [sliceP,Option.getD_some,Option.getD_none] at this ⊢
   simpa using this
  simp [c54,hR,hs,e,sv_size,w1,hsl2,resV,resP]
theorem certGone_ans (T:TB P) {v:List At} {a:Bytes} (hv:VOK v) (hL:v.length≤most):ans (env P) 115 [lv v,sv a]=some (bv (decide (0 < ofV v a))):=by
 have k:=vecOf_ans (P:=P) T (a:=a) hv.srt hL
 refine ans_V rfl rfl ?_
 simp [c115,k]
theorem r9Gone_ans {v:List At} {a:Bytes} (hL:v.length≤most):ans (env P) 124 [lv v,sv a]=some (bv (decide (0 < ofV v a))):=by
 have k:=r3Of_ans (P:=P) (v:=v) (a:=a) hL
 refine ans_V rfl rfl ?_
 simp [c124,k]
theorem certMerge_ans (T:TB P) {a b:List At} (ha:VOK a) (hb:VOK b) (hR:∀ q∈b,ans (env P) 53 [sv q.id]=some (bv true)) (hL:a.length+b.length < most):ans (env P) 113 [lv a,lv b]=some (lv (joinV a b)):=by
 have k:=vJoin_ans (P:=P) T ha hb hR hL
 refine ans_V rfl rfl ?_
 simp [c113,k]
def lastC (n:Int):Int:=1+max 0 (min n 1048575)
theorem lastC_rng (n:Int):1≤lastC n∧lastC n≤1048576:=by unfold lastC; omega
theorem certPut_ans (T:TB P) {v:List At} {a:Bytes} {n:Int} (hv:VOK v) (hR:ans (env P) 53 [sv a]=some (bv true)) (hL:v.length+1≤most):ans (env P) 71 [lv v,sv a,iv n]=some (lv (setV v a (lastC n))):=by
 have k:=vSet_ans (P:=P) (n:=lastC n) T hv hR (lastC_rng n).1 (lastC_rng n).2 hL
 have h1:∀ (t:TypeId) (ts:Array TypeId),evFun P .min ts t [.int .i64 n,.int .i64 1048575]=some (iv (min n 1048575)):=fun t ts=>minI
 have h2:∀ (t:TypeId) (ts:Array TypeId),evFun P .max ts t [.int .i64 0,.int .i64 (min n 1048575)]=some (iv (max 0 (min n 1048575))):=fun t ts=>maxI
 have w:IntKind.i64.wrap (1+max 0 (min n 1048575))=lastC n:=wrap64_id (by omega)
 refine ans_V rfl rfl ?_
 simp [c71,h1,h2,w,k]
theorem r9Put_ans {v:List At} {a:Bytes} {n:Int} (hv:VOK v) (hi:IdV v) (hib:a.length≤big) (hR:ans (env P) 165 [sv a]=some (bv true)) (hL:v.length < most):ans (env P) 134 [lv v,sv a,iv n]=some (lv (setV v a (lastC n))):=by
 have k:=r3Set_ans (P:=P) (n:=lastC n) hv hi hib hR (lastC_rng n).1 (lastC_rng n).2 hL
 have h1:∀ (t:TypeId) (ts:Array TypeId),evFun P .min ts t [.int .i64 n,.int .i64 1048575]=some (iv (min n 1048575)):=fun t ts=>minI
 have h2:∀ (t:TypeId) (ts:Array TypeId),evFun P .max ts t [.int .i64 0,.int .i64 (min n 1048575)]=some (iv (max 0 (min n 1048575))):=fun t ts=>maxI
 have w:IntKind.i64.wrap (1+max 0 (min n 1048575))=lastC n:=wrap64_id (by omega)
 refine ans_V rfl rfl ?_
 simp [c134,h1,h2,w,k]
end Go.Evl.Zone

namespace Go.Evl.Zone
open Go Go.Evl
variable {P:Program}
def fromK (v:List At):List KRow:=v.map fun q=>⟨q.id,q.n,[]⟩
theorem fromK_append (a b:List At):fromK (a++b)=fromK a++fromK b:=by simp [fromK]
theorem fromK_len (v:List At):(fromK v).length=v.length:=by simp [fromK]
theorem kFrom_loop {v:List At} (hv:VOK v) {ks:List Fr'} {K:Ex→St→Prop} (hL:v.length≤most):∀ (rest:List At) (i:Nat) (st:St) (x:PV),v.drop i=rest→i≤v.length→st.σ 6=lv v→st.σ 7=iv v.length→st.σ 8=iv i→st.σ 3=x→Lst st.h 3 x (En (fromK (v.take i))) →
  (∀ st' x,st'.σ 3=x→Lst st'.h 3 x (En (fromK v))→VN (env P) 91 st' ks K)→V (env P) 91 (.loop L91_0) st (.blk 0::ks) K
 | [],i,st,x,hr,hi,h6,h7,h8,h3,hl,hend=>by
   obtain ⟨hii,hlt,hd⟩:=drop_nil hr hi
   rw [hd] at hl
   rw [V_loop]
   simp [L91_0,h7,h8,hlt]
   exact hend _ x (by simp [h3]) (by simpa using hl.grow)
 | q::rest,i,st,x,hr,hi,h6,h7,h8,h3,hl,hend=>by
   obtain ⟨hq,hlt,hr',ht⟩:=drop_cons hr
   have hM:most=68719476736:=rfl
   have hc:=En_at hq
   have hqm:=List.mem_of_getElem? hq
   have wi:=wrapS (i:=i) (by omega)
   have k1:=spanFirst_ans (P:=P) (n:=q.n)
   have hq1:=hv.lo q hqm
   have hq2:=hv.hi q hqm
   rw [show max 0 (min q.n 1048576)=q.n by omega] at k1
   simp only [spV,En_nil] at k1
   have hlen:(v.take i).length≤i:=by rw [List.length_take]; omega
   rw [V_loop]
   simp [L91_0,h6,h7,h8,h3,hlt,hc,wi,k1,chunks,elems,allLen]
   refine VP_app (ys:=En (fromK (v.take i))) (by repeat (first | exact hl | refine Lst.grow ?_ | refine Lst.putN ?_ (by simp))) (by simp) (by simp) rfl (by simp [fromK_len]; omega) fun v' H' wr rd e2 e3 e4=>?_
   simp [h8,wi,e3]
   refine kFrom_loop hv hL rest (i+1) _ v' hr' (by omega) (by simp [h6]) (by simp [h7]) (by simp) (by simp) ?_ hend
   rw [ht,fromK_append,En_append]
   exact e2.grow
theorem kFrom_ans {v:List At} (hv:VOK v) (hL:v.length≤most):ans (env P) 91 [lv v]=some (lv (fromK v)):=by
 refine ans_V rfl rfl ?_
 refine V_mono (K:=fun _ s=>∃ is,expV s.h (s.σ 2)=some (lv (fromK v),is)) ?_ fun e s ⟨is,h⟩=>⟨is,by simpa [-expV,c91,resV,resP] using h⟩
 simp [-expV,c91]
 refine kFrom_loop hv hL v 0 _ (.im [] true) rfl (by omega) (by simp) (by simp) (by simp) (by simp) (by simpa [fromK] using Lst.nil) fun st' x h3 hl=>?_
 simp [-expV,h3]
 obtain ⟨is,hx⟩:=(hl.grow (m:=0)).expV (plainss_En _)
 exact ⟨is,hx⟩
theorem r4From_loop {v:List At} {ks:List Fr'} {K:Ex→St→Prop} (hL:v.length≤most):∀ (rest:List At) (i:Nat) (st:St) (x:PV),v.drop i=rest→i≤v.length→st.σ 0=lv v→st.σ 4=iv i→st.σ 3=x→Lst st.h 3 x (En (fromK (v.take i))) →
  (∀ st' x,st'.σ 3=x→Lst st'.h 3 x (En (fromK v))→VN (env P) 118 st' ks K)→V (env P) 118 (.loop L118_0) st (.blk 0::ks) K
 | [],i,st,x,hr,hi,h0,h4,h3,hl,hend=>by
   obtain ⟨hii,hlt,hd⟩:=drop_nil hr hi
   rw [hd] at hl
   rw [V_loop]
   simp [L118_0,h0,h4,hlt]
   exact hend _ x (by simp [h3]) (by simpa using hl.grow)
 | q::rest,i,st,x,hr,hi,h0,h4,h3,hl,hend=>by
   obtain ⟨hq,hlt,hr',ht⟩:=drop_cons hr
   have hM:most=68719476736:=rfl
   have hc:=En_at hq
   have wi:=wrapS (i:=i) (by omega)
   have hlen:(v.take i).length≤i:=by rw [List.length_take]; omega
   rw [V_loop]
   simp [L118_0,h0,h4,h3,hlt,hc,wi,chunks,elems,allLen]
   refine VP_app (ys:=En (fromK (v.take i))) (by repeat (first | exact hl | refine Lst.grow ?_ | refine Lst.putN ?_ (by simp))) (by simp) (by simp) rfl (by simp [fromK_len]; omega) fun v' H' wr rd e2 e3 e4=>?_
   simp [h4,wi,e3]
   refine r4From_loop hL rest (i+1) _ v' hr' (by omega) (by simp [h0]) (by simp) (by simp) ?_ hend
   rw [ht,fromK_append,En_append]
   exact e2.grow
theorem r4From_ans {v:List At} (hL:v.length≤most):ans (env P) 118 [lv v]=some (lv (fromK v)):=by
 refine ans_V rfl rfl ?_
 refine V_mono (K:=fun _ s=>∃ is,expV s.h (s.σ 2)=some (lv (fromK v),is)) ?_ fun e s ⟨is,h⟩=>⟨is,by simpa [-expV,c118,resV,resP] using h⟩
 simp [-expV,c118]
 refine r4From_loop hL v 0 _ (.im [] true) rfl (by omega) (by simp) (by simp) (by simp) (by simpa [fromK] using Lst.nil) fun st' x h3 hl=>?_
 simp [-expV,h3]
 obtain ⟨is,hx⟩:=(hl.grow (m:=0)).expV (plainss_En _)
 exact ⟨is,hx⟩
theorem r4Fst_loop {k:List KRow} {ks:List Fr'} {K:Ex→St→Prop} (hL:k.length≤most):∀ (rest:List KRow) (i:Nat) (st:St) (x:PV),k.drop i=rest→i≤k.length→st.σ 0=lv k→st.σ 4=iv i→st.σ 3=x→Lst st.h 2 x (En (fstK (k.take i))) →
  (∀ st' x,st'.σ 3=x→Lst st'.h 2 x (En (fstK k))→VN (env P) 121 st' ks K)→V (env P) 121 (.loop L121_0) st (.blk 0::ks) K
 | [],i,st,x,hr,hi,h0,h4,h3,hl,hend=>by
   obtain ⟨hii,hlt,hd⟩:=drop_nil hr hi
   rw [hd] at hl
   rw [V_loop]
   simp [L121_0,h0,h4,hlt]
   exact hend _ x (by simp [h3]) (by simpa using hl.grow)
 | q::rest,i,st,x,hr,hi,h0,h4,h3,hl,hend=>by
   obtain ⟨hq,hlt,hr',ht⟩:=drop_cons hr
   have hM:most=68719476736:=rfl
   have hc:=En_at hq
   have wi:=wrapS (i:=i) (by omega)
   have hlen:=fstK_len (k.take i)
   have hlen2:(k.take i).length≤i:=by rw [List.length_take]; omega
   rw [V_loop]
   by_cases h:0 < q.upto
   ·simp [L121_0,h0,h4,h3,hlt,hc,wi,h,chunks,elems,allLen]
    refine VP_app (ys:=En (fstK (k.take i))) (by repeat (first | exact hl | refine Lst.grow ?_ | refine Lst.putN ?_ (by simp))) (by simp) (by simp) rfl (by simp; omega) fun v' H' wr rd e2 e3 e4=>?_
    simp [h4,wi,e3]
    refine r4Fst_loop hL rest (i+1) _ v' hr' (by omega) (by simp [h0]) (by simp) (by simp) ?_ hend
    rw [ht,fstK_append,En_append]
    simp only [fstK,List.filter_cons,h,decide_true,if_true,List.filter_nil,List.map_cons,List.map_nil]
    exact e2.grow
   ·simp [L121_0,h0,h4,h3,hlt,hc,wi,h]
    refine r4Fst_loop hL rest (i+1) _ x hr' (by omega) (by simp [h0]) (by simp) (by simp [h3]) ?_ hend
    rw [ht,fstK_append]
    have:fstK [q]=[]:=by simp [fstK,h]
    rw [this,List.append_nil]
    repeat (first | exact hl | refine Lst.grow ?_)
theorem r4Firsts_ans {k:List KRow} (hL:k.length≤most):ans (env P) 121 [lv k]=some (lv (fstK k)):=by
 refine ans_V rfl rfl ?_
 refine V_mono (K:=fun _ s=>∃ is,expV s.h (s.σ 2)=some (lv (fstK k),is)) ?_ fun e s ⟨is,h⟩=>⟨is,by simpa [-expV,c121,resV,resP] using h⟩
 simp [-expV,c121]
 refine r4Fst_loop hL k 0 _ (.im [] true) rfl (by omega) (by simp) (by simp) (by simp) (by simpa [fstK] using Lst.nil) fun st' x h3 hl=>?_
 simp [-expV,h3]
 obtain ⟨is,hx⟩:=(hl.grow (m:=0)).expV (plainss_En _)
 exact ⟨is,hx⟩
end Go.Evl.Zone

namespace Go.Evl.Zone
open Go Go.Evl Go.Evl.Fl
variable {P:Program}
theorem ver_eql2 {t ts:TypeId} (hS:Sty P t [(ts,0),(3,1),(3,2)]) (h9:P.underlying ts=some .string) (h3:P.underlying 3=some (.int .i64)) {cx cy:Bool} (a b:Bytes) (m n p q:Int):evBin P .eql t cx cy (.agg [sv a,iv m,iv n]) (.agg [sv b,iv p,iv q])=some (bv (decide (a=b∧m=p∧n=q)))∧evBin P .neq t cx cy (.agg [sv a,iv m,iv n]) (.agg [sv b,iv p,iv q])=some (bv (!decide (a=b∧m=p∧n=q))):=by
 have h:=(sty_eql (cx:=cx) (cy:=cy) (xs:=[sv a,iv m,iv n]) (ys:=[sv b,iv p,iv q]) (vs:=[.string ⟨a.toArray⟩,.int .i64 m,.int .i64 n]) (us:=[.string ⟨b.toArray⟩,.int .i64 p,.int .i64 q]) hS (fun r=>if r.2=0 then (⟨a.toArray⟩:ByteArray) == ⟨b.toArray⟩ else if r.2=1 then m == p else n == q) rfl rfl (by
  intro p hp
  simp only [List.mem_cons,List.not_mem_nil,or_false] at hp
  rcases hp with rfl | rfl | rfl
  ·exact ⟨_,_,pureRun_part h9 rfl rfl,pureRun_part h9 rfl rfl,pureRun_equal_string h9⟩
  ·exact ⟨_,_,pureRun_part h3 rfl rfl,pureRun_part h3 rfl rfl,pureRun_equal_int h3⟩
  ·exact ⟨_,_,pureRun_part h3 rfl rfl,pureRun_part h3 rfl rfl,pureRun_equal_int h3⟩))
 have e:([(ts,0),(3,1),(3,2)].all fun r=>if r.2=0 then (⟨a.toArray⟩:ByteArray) == ⟨b.toArray⟩ else if r.2=1 then m == p else n == q)=decide (a=b∧m=p∧n=q):=by
  rw [Bool.eq_iff_iff]
  simp [ba_beq]
 rw [e] at h
 exact h
theorem pver_eql (T:TI P) {cx cy:Bool} (a b:Bytes) (m n p q:Int):evBin P .eql 73 cx cy (.agg [sv a,iv m,iv n]) (.agg [sv b,iv p,iv q])=some (bv (decide (a=b∧m=p∧n=q))):=(ver_eql2 T.ver T.tid T.t3 a b m n p q).1
theorem rver_eql (T:TI P) {cx cy:Bool} (a b:Bytes) (m n p q:Int):evBin P .eql 77 cx cy (.agg [sv a,iv m,iv n]) (.agg [sv b,iv p,iv q])=some (bv (decide (a=b∧m=p∧n=q))):=(ver_eql2 T.rver T.t9 T.t3 a b m n p q).1
theorem rver_neq (T:TI P) {cx cy:Bool} (a b:Bytes) (m n p q:Int):evBin P .neq 77 cx cy (.agg [sv a,iv m,iv n]) (.agg [sv b,iv p,iv q])=some (bv (!decide (a=b∧m=p∧n=q))):=(ver_eql2 T.rver T.t9 T.t3 a b m n p q).2
def newer (a b:Item):Bool:=if a.stamp≠b.stamp then decide (b.stamp < a.stamp) else decide (0 < cmpB a.id b.id)
def sameVer (a b:Item):Bool:=decide (a.id=b.id∧a.seq=b.seq∧a.stamp=b.stamp)
def yieldsI (old x:Item):Bool:=if sameVer old x=true then x.held && !old.held else !newer old x
theorem pnewer_ans {a b:Item}:ans (env P) 23 [.agg [sv a.id,iv a.seq,iv a.stamp],.agg [sv b.id,iv b.seq,iv b.stamp]]=some (bv (newer a b)):=by
 have h:=idCompare_ans (P:=P) (a:=a.id) (b:=b.id)
 refine ans_V rfl rfl ?_
 by_cases hs:a.stamp=b.stamp
 ·simp [c23,h,hs,newer]
 ·simp [c23,h,hs,newer]
theorem yields_ans (T:TB P) {a b:Item}:ans (env P) 143 [.agg (itP a),.agg (itP b)]=some (bv (yieldsI a b)):=by
 have h:=pnewer_ans (P:=P) (a:=a) (b:=b)
 have hv:=fun cx cy=>pver_eql (P:=P) T.toTI (cx:=cx) (cy:=cy) a.id b.id a.seq a.stamp b.seq b.stamp
 have hv':∀ cx cy,evBin P .eql 73 cx cy (.agg [sv a.id,iv a.seq,iv a.stamp]) (.agg [sv b.id,iv b.seq,iv b.stamp])=some (bv (sameVer a b)):=hv
 refine ans_V rfl rfl ?_
 cases e:sameVer a b with
 | true =>
   rw [e] at hv'
   cases hb:b.held <;> cases ha:a.held <;> simp [c143,hv',yieldsI,e,hb,ha]
 | false =>
   rw [e] at hv'
   simp [c143,hv',yieldsI,e,h]
theorem storeGet_ans (T:TB P) {v:List Item} {k:Int} (hv:Srt cmpI Item.key v) (hL:v.length≤most):ans (env P) 68 [lvP v,iv k]=some (match getA Item.key v k with
  | some x=>.tup [.agg (itP x),bv true]
  | none=>.tup [.agg [iv 0,sv [],iv 0,iv 0,bv false,.val (.complex .f64 0 0),sv [],bv false],bv false]):=by
 have hf:=storeFind_ans T (k:=k) hv hL
 have hg:=get_fnd (key:=Item.key) cmpI_ok k hv
 cases hga:getA Item.key v k with
 | none =>
   rw [hga] at hg
   simp only at hg
   rw [hg] at hf
   refine ans_V rfl rfl ?_
   simp [c68,hf,resV,resP]
 | some x =>
   rw [hga] at hg
   obtain ⟨h1,h2⟩:=hg
   rw [h2] at hf
   have hlt:lbN (fun q=>cmpI q.key k) v < v.length:=(List.getElem?_eq_some_iff.1 h1).1
   have hx:=EnP_at h1
   refine ans_V rfl rfl ?_
   simp [c68,hf,hlt,hx,resV,resP]
def putI (v:List Item) (x:Item):List Item × Bool:=match getA Item.key v x.key with
 | some o=>if yieldsI o x=true then (putA cmpI Item.key x v,true) else (v,false)
 | none=>(putA cmpI Item.key x v,true)
theorem storeR_at8 {H:Heap} {k r g i:Nat} {xs:List (List PV)} {y vs:List PV} (hg:g=xs.length) (h:xs[i]?=some y) (hy:y.length=k) (hv:vs.length=k):storeR H (.row k xs true) r k g i 0 vs=some (H.put r (.row k (xs.set i vs) true),r):=by
 have e:setL y 0 vs=vs:=by
  unfold setL
  simp [List.drop_of_length_le,hy,hv]
 have e2:storeR H (.row k xs true) r k g i 0 vs=ob xs[i]? fun cs=>if 0+vs.length≤cs.length then some (H.put r (.row k (xs.set i (setL cs 0 vs)) true),r) else none:=by
  unfold storeR
  simp only [toRow,ob_some]
  rw [if_pos ⟨trivial,trivial,hg⟩]
 rw [e2,h,ob_some,e,if_pos (by omega)]
theorem clone8 {v:List Item} (hv0:¬ v.length=0) (hL:v.length≤most) (H:Heap):pClone 8 [.im (EnP v) false] H=some ⟨.sl H.n 8 v.length 0 v.length,(H.grow 1).put H.n (.row 8 (EnP v) true),[H.n],some []⟩:=by
 simp only [pClone,isStr,elems,allLen_EnP,EnP_length,if_true]
 rw [if_neg (by decide),if_neg hv0,if_pos hL]
theorem storePut_ans (T:TB P) {v:List Item} {x:Item} (hv:Srt cmpI Item.key v) (hL:v.length < most):ans (env P) 70 [lvP v,.agg (itP x)]=some (.tup [lvP (putI v x).1,bv (putI v x).2]):=by
 have hf:=storeFind_ans T (k:=x.key) hv (Nat.le_of_lt hL)
 have hg:=get_fnd (key:=Item.key) cmpI_ok x.key hv
 have hp:=put_at (cmp:=cmpI) (key:=Item.key) x v
 have hlb:=lbN_le (c:=fun q=>cmpI q.key x.key) v
 have p1:=fun {dst:Option Nat} {rest:List CI} {i slot slot':Nat} {log:Log} {d:Dr} {K:Ex→St→Prop} {st:St} {ks:List Fr'} {xs:List O}=>VA_prim (E:=env P) (f:=70) (g:=141) (p:=pClone 8) (dst:=dst) (rest:=rest) (i:=i) (slot:=slot) (slot':=slot') (log:=log) (d:=d) (K:=K) (st:=st) (ks:=ks) (xs:=xs) rfl
 have p2:=fun {dst:Option Nat} {rest:List CI} {i slot slot':Nat} {log:Log} {d:Dr} {K:Ex→St→Prop} {st:St} {ks:List Fr'} {xs:List O}=>VA_prim (E:=env P) (f:=70) (g:=142) (p:=pIns 8) (dst:=dst) (rest:=rest) (i:=i) (slot:=slot) (slot':=slot') (log:=log) (d:=d) (K:=K) (st:=st) (ks:=ks) (xs:=xs) rfl
 unfold putI
 cases v with
 | nil =>
   have hga:getA Item.key [] x.key=none:=rfl
   rw [hga] at hg ⊢
   simp only at hg
   rw [hg] at hf
   simp only [lvP,EnP_nil,lbN] at hf
   have e0:((0:Nat):Int)=0:=rfl
   rw [e0] at hf
   refine ans_V rfl rfl ?_
   simp [c70,resV,resP,p1,p2,pClone,isStr,elems,allLen,hf,pIns,chunks,putA,EnP,plainss,plains,plain]
 | cons b l =>
   have hv0:¬ (b::l).length=0:=by simp
   generalize b::l=v at *
   have hcl:=clone8 hv0 (Nat.le_of_lt hL)
   have hpl:=plainss_EnP v
   have htk:(EnP v).take v.length=EnP v:=List.take_of_length_le (by simp)
   simp only [lvP] at hf
   cases hga:getA Item.key v x.key with
   | none =>
     rw [hga] at hg
     simp only at hg
     rw [hg,if_neg (by decide)] at hp
     rw [hg] at hf
     have hm:v.length+1≤most:=hL
     have hkey:(EnP v).take (lbN (fun q=>cmpI q.key x.key) v)++itP x::(EnP v).drop (lbN (fun q=>cmpI q.key x.key) v)=EnP (putA cmpI Item.key x v):=by
      rw [hp]; simp [EnP]
     have hwl:(putA cmpI Item.key x v).length=v.length+1:=by rw [hp]; simp; omega
     have hpm:=plainss_EnP (putA cmpI Item.key x v)
     have htw:(EnP (putA cmpI Item.key x v)).take (v.length+1)=EnP (putA cmpI Item.key x v):=List.take_of_length_le (by simp [hwl])
     refine ans_V rfl rfl ?_
     simp [c70,resV,resP,p1,p2,hcl,hf,pIns,hpl,htk,chunks,hlb,hm,hkey,hwl,hpm,htw]
     done
   | some o =>
     rw [hga] at hg
     obtain ⟨h1,h2⟩:=hg
     rw [h2,if_pos rfl] at hp
     rw [h2] at hf
     have hlt:lbN (fun q=>cmpI q.key x.key) v < v.length:=(List.getElem?_eq_some_iff.1 h1).1
     have hy:=yields_ans T (P:=P) (a:=o) (b:=x)
     have hx:=EnP_at h1
     have hx2:(EnP v)[lbN (fun q=>cmpI q.key x.key) v]?=some (itP o):=EnP_at? h1
     cases hyy:yieldsI o x with
     | true =>
       rw [hyy] at hy
       have hkey:(EnP v).set (lbN (fun q=>cmpI q.key x.key) v) (itP x)=EnP (putA cmpI Item.key x v):=by
        rw [hp]; simp [EnP]
       have hwl:(putA cmpI Item.key x v).length=v.length:=by rw [hp]; simp
       have hpm:=plainss_EnP (putA cmpI Item.key x v)
       have htw:(EnP (putA cmpI Item.key x v)).take v.length=EnP (putA cmpI Item.key x v):=List.take_of_length_le (by simp [hwl])
       have s1:∀ H,storeR H (.row 8 (EnP v) true) 1 8 v.length (lbN (fun q=>cmpI q.key x.key) v) 0 (itP x)=some (H.put 1 (.row 8 ((EnP v).set (lbN (fun q=>cmpI q.key x.key) v) (itP x)) true),1):=fun H=>storeR_at8 (by simp) hx2 rfl rfl
       refine ans_V rfl rfl ?_
       simp [c70,resV,resP,p1,p2,hcl,hf,hpl,htk,hlb,hlt,hx,hy,loadR_row,s1,hkey,hwl,hpm,htw,hyy]
       done
     | false =>
       rw [hyy] at hy
       refine ans_V rfl rfl ?_
       simp [c70,resV,resP,p1,p2,hcl,hf,hpl,htk,hlb,hlt,hx,hy,loadR_row,hyy]
       done
end Go.Evl.Zone

namespace Go.Evl.Zone
open Go Go.Evl
variable {P:Program}
theorem EnR_cons (a:Item) (l:List Item):EnR (a::l)=itR a::EnR l:=rfl
theorem r7Newer_ans {a b:Item} (ha:a.id.length≤big) (hb:b.id.length≤big):ans (env P) 178 [.agg [sv a.id,iv a.seq,iv a.stamp],.agg [sv b.id,iv b.seq,iv b.stamp]]=some (bv (newer a b)):=by
 have h:=r1Compare_ans (P:=P) (s:=a.id) (t:=b.id) ha hb
 refine ans_V rfl rfl ?_
 by_cases hs:a.stamp=b.stamp
 ·simp [c178,h,hs,newer]
 ·by_cases h2:b.stamp < a.stamp
  ·simp [c178,h,hs,h2,newer]
  ·simp [c178,h,hs,h2,newer]
theorem r8Get_loop {v:List Item} {k:Int} {ks:List Fr'} {K:Ex→St→Prop} (hL:v.length≤most):∀ (rest:List Item) (i:Nat) (st:St),v.drop i=rest→i≤v.length→st.σ 0=lvR v→st.σ 1=iv k→st.σ 6=iv i→st.σ 4 = .ptr 0 0→st.h.at_ 0 = .box (itR ⟨0,[],0,0,false,0,0,[],false⟩)→0 < st.h.n →
  (∀ st' q,getA Item.key rest k=some q→st'.σ 4 = .ptr 0 0→st'.h.at_ 0 = .box (itR q)→st'.σ 5=bv true→K .ret st')→(∀ st',getA Item.key rest k=none→st'.σ 4 = .ptr 0 0→st'.h.at_ 0 = .box (itR ⟨0,[],0,0,false,0,0,[],false⟩)→0 < st'.h.n→VN (env P) 22 st' ks K)→V (env P) 22 (.loop L22_0) st (.blk 0::ks) K
 | [],i,st,hr,hile,h0,h1,h6,h4,hb,hn,hret,hend=>by
   obtain ⟨hii,hlt,hd⟩:=drop_nil hr hile
   rw [V_loop]
   simp [L22_0,h0,h6,hlt]
   exact hend _ rfl (by simp [h4]) (by simp [hb,hn]) (by simpa using hn)
 | q::rest,i,st,hr,hile,h0,h1,h6,h4,hb,hn,hret,hend=>by
   obtain ⟨hq,hlt,hr',_⟩:=drop_cons hr
   have hc:=EnR_at hq
   have hw:=wrapS (i:=i) (by unfold most at hL; omega)
   simp only [itR] at hb
   rw [V_loop]
   by_cases e:q.key=k
   ·subst e
    simp [L22_0,h0,h1,h6,h4,hb,hn,hlt,hc,hw]
    exact hret _ q (by simp [getA]) (by simp [h4]) (by simp [hn,itR]) (by simp)
   ·simp [L22_0,h0,h1,h6,h4,hb,hn,hlt,hc,hw,e]
    exact r8Get_loop (k:=k) hL rest (i+1) _ hr' (by omega) (by simp [h0]) (by simp [h1]) (by simp) (by simp [h4]) (by simp [hb,hn,itR]) (by simpa using hn) (fun st' p h=>hret st' p (by simpa [getA,e] using h)) (fun st' h=>hend st' (by simpa [getA,e] using h))
theorem r8Get_ans {v:List Item} {k:Int} (hL:v.length≤most):ans (env P) 22 [lvR v,iv k]=some (match getA Item.key v k with
  | some x=>.tup [.agg (itR x),bv true]
  | none=>.tup [.agg (itR ⟨0,[],0,0,false,0,0,[],false⟩),bv false]):=by
 refine ans_V rfl rfl ?_
 simp [c22]
 refine r8Get_loop (k:=k) hL v 0 _ rfl (by omega) (by simp) (by simp) (by simp) (by simp) (by simp [itR]) (by simp) ?_ ?_
 ·intro st' q hg h4 hb h5
  simp [h4,hb,h5,hg,resV,resP,itR]
 ·intro st' hg h4 hb hn
  simp only [itR] at hb
  simp [h4,hb,hn,hg,resV,resP,itR]
theorem r8drop_loop {v:List Item} {a:Int} {N:Nat} {ks:List Fr'} {K:Ex→St→Prop} (hL:v.length≤most):∀ (rest:List Item) (i:Nat) (st:St) (x:PV) (L:List Item),v.drop i=rest→i≤v.length→st.σ 0=lvR v→st.σ 1=iv a→st.σ 6=iv i→st.σ 5=x→LN N st.h 9 x (EnR L)→L.length≤i→N≤st.h.n→(∀ j∈st.wl,N≤j) →
  (∀ st' x,st'.σ 5=x→LN N st'.h 9 x (EnR (L++rest.filter fun q=>decide (q.key≠a)))→N≤st'.h.n→(∀ j,j < N→st'.h.at_ j=st.h.at_ j)→(∀ j∈st'.wl,N≤j)→VN (env P) 179 st' ks K)→V (env P) 179 (.loop L179_0) st (.blk 0::ks) K
 | [],i,st,x,L,hr,hile,h0,h1,h6,h5,hl,hle,hN,hw,hend=>by
   obtain ⟨hii,hlt,hd⟩:=drop_nil hr hile
   rw [V_loop]
   simp [L179_0,h0,h6,hlt]
   exact hend _ x (by simp [h5]) (by simpa using hl.grow) (by simpa using hN) (fun j hj=>by simp [show j < st.h.n by omega]) hw
 | q::rest,i,st,x,L,hr,hile,h0,h1,h6,h5,hl,hle,hN,hw,hend=>by
   obtain ⟨hq,hlt,hr',ht⟩:=drop_cons hr
   have hc:=EnR_at hq
   have hwi:=wrapS (i:=i) (by unfold most at hL; omega)
   rw [V_loop]
   by_cases hqa:q.key=a
   ·simp [L179_0,h0,h1,h6,hlt,hc,hwi,hqa]
    refine r8drop_loop (a:=a) hL rest (i+1) _ x L hr' (by omega) (by simp [h0]) (by simp [h1]) (by simp) (by simp [h5]) (by repeat (first | exact hl | refine LN.grow ?_)) (by omega) (by simpa using hN) hw fun st' x e1 e2 e3 e4 e5=>hend st' x e1 (by simpa [hqa] using e2) e3 (fun j hj=>by rw [e4 j hj]; simp [show j < st.h.n by omega]) e5
   ·simp [L179_0,h0,h1,h6,h5,hlt,hc,hwi,hqa,chunks,elems,allLen]
    refine VP_appN (N:=N) (ys:=EnR L) (by repeat (first | exact hl | refine LN.grow ?_)) (by simp) (by simp) hN (by simp [allLen]) (by simp; omega) fun v' H' wr rd e2 e3 _ e5 e6=>?_
    simp [h6,hwi,e3]
    refine r8drop_loop (a:=a) hL rest (i+1) _ v' (L++[q]) hr' (by omega) (by simp [h0]) (by simp [h1]) (by simp) (by simp) ?_ (by simp; omega) (by simp [e3]; omega) (fun j hj=>(List.mem_append.1 hj).elim (e6 j) (hw j)) fun st' x g1 g2 g3 g4 g5=>hend st' x g1 (by simpa [hqa] using g2) g3 (fun j hj=>by rw [g4 j hj]; simp [e3,show j < st.h.n+1 by omega,e5 j hj,show j < st.h.n by omega]) g5
    rw [EnR_append,EnR_one]
    repeat (first | exact e2 | refine LN.grow ?_)
theorem r8drop_KC {H:Heap} {v:List Item} {a:Int} {K:PV→Heap→List Nat→Prop} (hL:v.length≤most) (hK:∀ x H' wl,LN H.n H' 9 x (EnR (v.filter fun q=>decide (q.key≠a)))→H.n≤H'.n→(∀ j,j < H.n→H'.at_ j=H.at_ j)→(∀ j∈wl,H.n≤j)→K x H' wl):KC (env P) 179 [lvR v,iv a] H K:=by
 refine KC_of (cf:=c179) (fun _=>rfl) rfl ?_
 simp [c179]
 refine r8drop_loop (a:=a) (N:=H.n) hL v 0 _ (.im [] true) [] rfl (by omega) (by simp) (by simp) (by simp) (by simp) LN.nil (by simp) (by simp) (by simp) fun st' x e1 e2 e3 e4 e5=>?_
 simp [e1,resV,resP]
 have E:=keepH (h:=st'.h) (H:=H) (n:=st'.h.n) rfl
 refine hK x _ _ (ln_sameG e2 E) (Nat.le_trans e3 (Nat.le_of_eq E.1.symm)) (fun j hj=>(E.2 j (by omega)).trans (by rw [e4 j hj]; simp [hj])) e5
theorem r8put_loop {ks:List Fr'} {K:Ex→St→Prop} {x:Item}:∀ (L1 L2:List Item) (st:St) (w:PV) (r:Nat) (xs:List (List PV)),(∀ q∈L1,q.key≠x.key)→L1.length+L2.length+1≤most→st.σ 8=w→Rw st.h 9 w (EnR (L1++x::L2)) r xs→st.σ 9=iv L1.length→(∀ z,L2.head?=some z→cmpI x.key z.key < 0) →
  (∀ st' L1' L2' w' r' xs',L1'++L2'=L1++L2→(∀ y,lastP none L1'=some y→cmpI y.key x.key < 0)→(∀ z,L2'.head?=some z→cmpI x.key z.key < 0)→st'.σ 8=w'→Rw st'.h 9 w' (EnR (L1'++x::L2')) r' xs'→VN (env P) 133 st' ks K)→V (env P) 133 (.loop L133_0) st (.blk 0::ks) K:=by
 intro L1
 generalize hn:L1.length=n
 induction n generalizing L1 with
 | zero =>
   intro L2 st w r xs hids hm hl hR hi h2 hend
   obtain rfl:L1=[]:=List.length_eq_zero_iff.1 hn
   rw [V_loop]
   simp [L133_0,hl,hi]
   exact hend _ [] L2 w r xs rfl (by simp [lastP]) h2 (by simp [hl]) hR.grow
 | succ n ih =>
   intro L2 st w r xs hids hm hl hR hi h2 hend
   obtain ⟨L1,y,rfl⟩:∃ L y,L1=L++[y]:=by
    rcases List.eq_nil_or_concat L1 with h | ⟨L,y,h⟩
    ·rw [h] at hn; simp at hn
    ·exact ⟨L,y,by simpa using h⟩
   have hn':L1.length=n:=by simpa using hn
   have hy:=hids y (by simp)
   have hgt:0 < cmpI y.key x.key↔x.key < y.key:=by
    unfold cmpI
    split
    ·constructor <;> intro h <;> omega
    ·split
     ·simp; omega
     ·simp; omega
   have hv:=hR.v
   have hb:=hR.b
   have hlt:=hR.lt
   have hle:=hR.le
   have eq:=hR.eq
   simp only [EnR_length,List.length_append,List.length_cons,List.length_nil] at hle eq
   have ix:∀ (j:Nat) (q:Item),((L1++[y])++x::L2)[j]?=some q→xs[j]?=some (itR q):=fun j q hq=>by
    have h1:(EnR ((L1++[y])++x::L2))[j]?=some (itR q):=EnR_at? hq
    rw [← hR.eq,List.getElem?_take] at h1
    split at h1
    ·exact h1
    ·cases h1
   have iy:=ix n y (by simp [← hn'])
   have ixx:=ix (n+1) x (by simp [← hn'])
   have hm':=hm
   unfold most at hm'
   have wn:IntKind.i64.wrap (n:Int)=(n:Int):=wrap64_id (by simp at hm'; omega)
   have b0:(n:Int) < (n:Int)+((L2.length:Int)+1+1):=by omega
   have b1:(n:Int)+1 < (n:Int)+((L2.length:Int)+1+1):=by omega
   have b2:(0:Int)≤(n:Int)+1:=by omega
   have b3:((n:Int)+1).toNat=n+1:=by omega
   have b4:n < n+(L2.length+1+1):=by omega
   have b5:n+1 < n+(L2.length+1+1):=by omega
   have hi':st.σ 9=iv ((n:Int)+1):=by rw [hi]; rfl
   have lx:n < xs.length:=by omega
   have lx1:n+1 < xs.length:=by omega
   rw [V_loop]
   have iy2:(xs.set n (itR x))[n+1]?=some (itR x):=by rw [List.getElem?_set_ne (by omega)]; exact ixx
   have s1:∀ H,storeR H (.row 9 xs true) r 9 xs.length n 0 (itR x)=some (H.put r (.row 9 (xs.set n (itR x)) true),r):=fun H=>storeRG rfl iy rfl rfl
   have s2:∀ H,storeR H (.row 9 (xs.set n (itR x)) true) r 9 xs.length (n+1) 0 (itR y)=some (H.put r (.row 9 ((xs.set n (itR x)).set (n+1) (itR y)) true),r):=fun H=>storeRG (by simp) iy2 rfl rfl
   simp only [itR] at s1 s2
   by_cases hc:0 < cmpI y.key x.key
   ·have hc':=hgt.1 hc
    simp [L133_0,hl,hv,hi',hb,hlt,hn',wn,b0,b1,b2,b3,b4,b5,iy,ixx,hc',loadR_row,s1,s2]
    refine ih L1 hn' (y::L2) _ w r _ (fun q hq=>hids q (by simp [hq])) (by simp at hm ⊢; omega) (by simp [hl,hv,hn']) (Rw.grow (m:=0) (ys:=EnR (L1++x::y::L2)) (xs:=(xs.set n (itR x)).set (n+1) (itR y)) ?_) (by simp [hn']) (fun z hz=>?_) fun st' L1' L2' w' r' xs' e1=>hend st' L1' L2' w' r' xs' (by simpa using e1)
    ·have R1:=(hR.grow (m:=0)).set (i:=n) (y:=itR x) rfl
     have R2:=R1.set (i:=n+1) (y:=itR y) rfl
     rw [show EnR (L1++x::y::L2)=((EnR ((L1++[y])++x::L2)).set n (itR x)).set (n+1) (itR y) by
      rw [← hn']
      simp [EnR_append,EnR_cons,EnR_length]]
     exact R2
    ·obtain rfl:y=z:=by simpa using hz
     exact cmpI_ok.pos _ _ hc
   ·have hc':¬ x.key < y.key:=fun h=>hc (hgt.2 h)
    simp [L133_0,hl,hv,hi',hb,hlt,hn',wn,b0,b1,b2,b3,b4,b5,iy,ixx,hc',loadR_row]
    refine hend _ (L1++[y]) L2 w r xs rfl (fun z hz=>?_) h2 (by simp [hl,hv,hn']) (by repeat (first | exact hR | refine Rw.grow ?_))
    rw [lastP_some] at hz
    obtain rfl:y=z:=by simpa using hz
    have h3:cmpI y.key x.key≠0:=fun h=>hy (cmpI_ok.zero _ _ h)
    omega
theorem r8Put_end {v:List Item} {x:Item} (hv:Srt cmpI Item.key v) (hL:v.length < most) {st:St} {ks:List Fr'} {B1:List PV} (h0:st.σ 0=lvR v) (h3:st.σ 3 = .ptr 0 0) (b0:st.h.at_ 0 = .box (itR x)) (hn:st.h.n=2) {K:Ex→St→Prop} (hK:∀ s,(∃ is,expV s.h (s.σ 4)=some (lvR (putA cmpI Item.key x v),is))→s.σ 5=bv true→K .ret s)
  {c:CC} (hc:c=match c133.body with | .seq _ (.seq _ (.seq _ r))=>r | _=>.skip):V (env P) 133 c st ks K:=by
 subst hc
 simp only [itR] at b0
 have hM:most=68719476736:=rfl
 simp [-expV,c133,h0,h3,b0,hn]
 refine VA_keep (g:=179) (caps:=[]) rfl rfl ?_
 refine r8drop_KC (v:=v) (a:=x.key) (by omega) fun xx H' wl d1 d2 d3 d4=>?_
 have a0:=d3 0 (by simp [hn])
 have a2:=d3 2 (by simp [hn])
 simp [b0,hn] at a0 a2
 have n3:3≤H'.n:=by simpa [hn] using d2
 have m0:0 < H'.n:=by omega
 obtain ⟨F,hF⟩:∃ F,F=v.filter (fun q=>decide (q.key≠x.key)):=⟨_,rfl⟩
 rw [← hF] at d1
 have hFl:F.length≤v.length:=by rw [hF]; exact List.length_filter_le _ _
 have hFi:∀ q∈F,q.key≠x.key:=fun q hq=>by
  rw [hF] at hq
  simpa using (List.mem_filter.1 hq).2
 simp [-expV,h3,a0,m0,chunks,elems,allLen]
 refine VP_appR (ys:=EnR F) (by repeat (first | exact d1.l | refine Lst.grow ?_)) a2 (by omega) (by simp [allLen]) (by simp) (by simp; omega) fun v' H2 wr rd r xs e2 e3 _=>?_
 have e2':Rw H2 9 v' (EnR (F++x::[])) r xs:=by rw [EnR_append,EnR_one]; exact e2
 have hle:lenP false v'=some (F.length+1):=by rw [e2'.lst.len]; simp
 have wF:IntKind.i64.wrap (F.length:Int)=(F.length:Int):=wrap64_id (by omega)
 have hap:∀ j∈wl,¬ j=0:=fun j hj=>by have:=d4 j hj; simp [hn] at this; omega
 simp [-expV,e3,hle,wF]
 refine ⟨⟨.inr (by simp [gOK,rdOK,rdsH,rdsOf,readC,bslC,look]),?_⟩,?_⟩
 ·exact hap
 ·refine r8put_loop (x:=x) F [] _ v' r xs hFi (by simp; omega) (by simp) (by repeat (first | exact e2' | refine Rw.grow ?_)) (by simp) (by simp) fun st' L1 L2 w' r' xs' u1 u2 u3 u4 u5=>?_
  have hput:=put_of cmpI_ok (x:=x) hv (L1:=L1) (L2:=L2) (by rw [u1,List.append_nil,hF]) u2 u3
  rw [hput] at u5
  obtain ⟨is,hx⟩:=(Rw.grow (m:=0) u5).lst.expV (plainss_EnR _)
  simp [-expV,u4]
  exact hK _ ⟨is,by simpa [-expV] using hx⟩ (by simp)
def sq1:CC→CC
 | .seq a _=>a
 | _=>.skip
def sq2:CC→CC
 | .seq _ b=>b
 | _=>.skip
theorem r8Put_ans (T:TB P) {v:List Item} {x:Item} (hv:Srt cmpI Item.key v) (hi:∀ q∈v,q.id.length≤big) (hx:x.id.length≤big) (hL:v.length < most):ans (env P) 133 [lvR v,.agg (itR x)]=some (.tup [lvR (putI v x).1,bv (putI v x).2]):=by
 have hM:most=68719476736:=rfl
 have kg:=r8Get_ans (P:=P) (v:=v) (k:=x.key) (by omega)
 obtain ⟨D,hD⟩:∃ D,D=(match c133.body with | .seq _ (.seq _ (.seq _ r))=>r | _=>.skip):=⟨_,rfl⟩
 refine ans_V rfl rfl ?_
 refine V_mono (K:=fun _ s=>∃ is,expV s.h (s.σ 4)=some (lvR (putI v x).1,is)∧s.σ 5=bv (putI v x).2) ?_ fun e s ⟨is,h,h5⟩=>?_
 ·rw [show c133.body = .seq (sq1 c133.body) (.seq (sq1 (sq2 c133.body)) (.seq (sq1 (sq2 (sq2 c133.body))) D)) by rw [hD]; rfl]
  cases hga:getA Item.key v x.key with
  | none =>
    rw [hga] at kg
    simp only [itR] at kg
    have hput:putI v x=(putA cmpI Item.key x v,true):=by unfold putI; rw [hga]
    rw [hput]
    simp [-expV,sq1,sq2,c133,itR,kg]
    exact r8Put_end (x:=x) (B1:=[]) hv hL (by simp) (by simp) (by simp [itR]) (by simp) (fun s h h5=>⟨h,h5⟩) hD
  | some o =>
    rw [hga] at kg
    simp only [itR] at kg
    have hv1:=rver_eql T.toTI (cx:=false) (cy:=false) o.id x.id o.seq o.stamp x.seq x.stamp
    have hv2:=rver_neq T.toTI (cx:=false) (cy:=false) o.id x.id o.seq o.stamp x.seq x.stamp
    have kn:=r7Newer_ans (P:=P) (a:=o) (b:=x) (hi o (get_mem hga).1) hx
    have hsame:(o.id=x.id∧o.seq=x.seq∧o.stamp=x.stamp)↔sameVer o x=true:=by unfold sameVer; rw [decide_eq_true_eq]
    have hd1:decide (o.id=x.id∧o.seq=x.seq∧o.stamp=x.stamp)=sameVer o x:=rfl
    rw [hd1] at hv1 hv2
    have hput:putI v x=if yieldsI o x=true then (putA cmpI Item.key x v,true) else (v,false):=by unfold putI; rw [hga]
    have yes:yieldsI o x=true→putI v x=(putA cmpI Item.key x v,true):=fun h=>by rw [hput,if_pos h]
    have no:yieldsI o x=false→putI v x=(v,false):=fun h=>by rw [hput,if_neg (by simp [h])]
    clear hput
    have fin2:∀ st:St,st.σ 0=lvR v→st.σ 4 = .im [] true→True:=fun _ _ _=>trivial
    cases hs:sameVer o x with
    | true =>
      rw [hs] at hv1 hv2
      cases hoh:o.held with
      | true =>
        rw [no (by simp [yieldsI,hs,hoh])]
        simp [-expV,sq1,sq2,c133,itR,kg,hv1,hv2,hoh,chunks,elems]
        refine VP_appF (N:=0) (ys:=[]) (.im rfl rfl) (by simp) (by simp) (by omega) (allLen_EnR v) (by simp; omega) fun v1 H1 wr1 rd1 e1 e2 e3 e4 e5=>?_
        obtain ⟨is,hx⟩:=e1.ln.l.expV (by simpa using plainss_EnR v)
        simp [-expV]
        exact ⟨is,by simpa [-expV] using hx⟩
      | false =>
        cases hxh:x.held with
        | true =>
          rw [yes (by simp [yieldsI,hs,hoh,hxh])]
          simp [-expV,sq1,sq2,c133,itR,kg,hv1,hv2,hoh,hxh]
          exact r8Put_end (x:=x) (B1:=[]) hv hL (by simp) (by simp) (by simp [itR,hxh]) (by simp) (fun s h h5=>⟨h,h5⟩) hD
        | false =>
          rw [no (by simp [yieldsI,hs,hoh,hxh])]
          simp [-expV,sq1,sq2,c133,itR,kg,hv1,hv2,hoh,hxh,chunks,elems]
          refine VP_appF (N:=0) (ys:=[]) (.im rfl rfl) (by simp) (by simp) (by omega) (allLen_EnR v) (by simp; omega) fun v1 H1 wr1 rd1 e1 e2 e3 e4 e5=>?_
          obtain ⟨is,hx⟩:=e1.ln.l.expV (by simpa using plainss_EnR v)
          simp [-expV]
          exact ⟨is,by simpa [-expV] using hx⟩
    | false =>
      rw [hs] at hv1 hv2
      cases hnw:newer o x with
      | true =>
        rw [no (by simp [yieldsI,hs,hnw])]
        rw [hnw] at kn
        simp [-expV,sq1,sq2,c133,itR,kg,hv1,hv2,kn,chunks,elems]
        refine VP_appF (N:=0) (ys:=[]) (.im rfl rfl) (by simp) (by simp) (by omega) (allLen_EnR v) (by simp; omega) fun v1 H1 wr1 rd1 e1 e2 e3 e4 e5=>?_
        obtain ⟨is,hx⟩:=e1.ln.l.expV (by simpa using plainss_EnR v)
        simp [-expV]
        exact ⟨is,by simpa [-expV] using hx⟩
      | false =>
        rw [yes (by simp [yieldsI,hs,hnw])]
        rw [hnw] at kn
        simp [-expV,sq1,sq2,c133,itR,kg,hv1,hv2,kn]
        exact r8Put_end (x:=x) (B1:=[]) hv hL (by simp) (by simp) (by simp [itR]) (by simp) (fun s h h5=>⟨h,h5⟩) hD
 ·have h2:expA s.h (s.σ 4)=some (lvR (putI v x).1,is):=by
   cases hh:s.σ 4 with
   | tup vs=>rw [hh] at h; simp [expV] at h; split at h <;> simp at h
   | _=>rw [hh] at h; exact h
  refine ⟨is++[],?_⟩
  show (resV s [.tmp 4,.tmp 5]).bind (expV s.h)=_
  rw [show resV s [.tmp 4,.tmp 5]=some (.tup [s.σ 4,s.σ 5]) from rfl,h5]
  show expV s.h (.tup [s.σ 4,bv (putI v x).2])=_
  unfold expV
  simp only [expAs,h2]
  rfl
end Go.Evl.Zone

namespace Go.Evl.Zone
open Go Go.Evl Go.Evl.Fl
variable {P:Program}
structure NB (s:NS):Prop where
 gone:s.gone.length≤most
 floor:s.floor.length≤most
 store:s.store.length≤most
 zone:s.zone.length≤most
 members:s.members.length≤most
 certs:s.certs.length≤most
section
variable {s:NS}
theorem copiedG (B:NB s) (k1:ans (env P) 90 [lv s.know,.im [] false]=some (lv s.know)) (k2:ans (env P) 114 [lv s.rows,.im [] false]=some (lv s.rows)):ans (env P) 83 [.agg (nsP s)]=some (.agg (nsP s)):=by
 have c1:=fun {dst:Option Nat} {rest:List CI} {i slot slot':Nat} {log:Log} {d:Dr} {K:Ex→St→Prop} {st:St} {ks:List Fr'} {xs:List O}=>VA_prim (E:=env P) (f:=83) (g:=149) (p:=pCloneF 2) (dst:=dst) (rest:=rest) (i:=i) (slot:=slot) (slot':=slot') (log:=log) (d:=d) (K:=K) (st:=st) (ks:=ks) (xs:=xs) rfl
 have c2:=fun {dst:Option Nat} {rest:List CI} {i slot slot':Nat} {log:Log} {d:Dr} {K:Ex→St→Prop} {st:St} {ks:List Fr'} {xs:List O}=>VA_prim (E:=env P) (f:=83) (g:=141) (p:=pCloneF 8) (dst:=dst) (rest:=rest) (i:=i) (slot:=slot) (slot':=slot') (log:=log) (d:=d) (K:=K) (st:=st) (ks:=ks) (xs:=xs) rfl
 have c3:=fun {dst:Option Nat} {rest:List CI} {i slot slot':Nat} {log:Log} {d:Dr} {K:Ex→St→Prop} {st:St} {ks:List Fr'} {xs:List O}=>VA_prim (E:=env P) (f:=83) (g:=95) (p:=pCloneF 3) (dst:=dst) (rest:=rest) (i:=i) (slot:=slot) (slot':=slot') (log:=log) (d:=d) (K:=K) (st:=st) (ks:=ks) (xs:=xs) rfl
 have c4:=fun {dst:Option Nat} {rest:List CI} {i slot slot':Nat} {log:Log} {d:Dr} {K:Ex→St→Prop} {st:St} {ks:List Fr'} {xs:List O}=>VA_prim (E:=env P) (f:=83) (g:=150) (p:=pCloneF 1) (dst:=dst) (rest:=rest) (i:=i) (slot:=slot) (slot':=slot') (log:=log) (d:=d) (K:=K) (st:=st) (ks:=ks) (xs:=xs) rfl
 have z1:∀ H,pCloneF 3 [.im (stepsV (toSI s.zone)) false] H=some ⟨.im (stepsV (toSI s.zone)) false,H,[],some []⟩:=fun H=>cloneF_ok (by simp) (by simpa [stepsV,toSI] using B.zone) (plainss_steps _)
 have z2:∀ H,pCloneF 8 [.im (EnP s.store) false] H=some ⟨.im (EnP s.store) false,H,[],some []⟩:=fun H=>cloneF_ok (by simp) (by simpa using B.store) (plainss_EnP _)
 have z3:∀ (v:List At),v.length≤most→∀ H,pCloneF 2 [.im (En v) false] H=some ⟨.im (En v) false,H,[],some []⟩:=fun v h H=>cloneF_ok (allLen_En rfl v) (by simpa using h) (plainss_En v)
 have z4:∀ H,pCloneF 1 [.im (En s.members) false] H=some ⟨.im (En s.members) false,H,[],some []⟩:=fun H=>cloneF_ok (allLen_En (α:=Bytes) rfl _) (by simpa using B.members) (plainss_En _)
 refine ans_V rfl rfl ?_
 simp [c83,nsP,lv,lvP,k1,k2,c1,c2,c3,c4,z1,z2,z3 _ B.gone,z3 _ B.floor,z3 _ B.certs,z4]
 all_goals done
theorem allG {G A:List KRow} (k1:ans (env P) 91 [lv s.gone]=some (lv G)) (k2:ans (env P) 90 [lv s.know,lv G]=some (lv A)):ans (env P) 21 [.agg (nsP s)]=some (lv A):=by
 refine ans_V rfl rfl ?_
 simp [c21,nsP,lv,lvP,k1,k2]
theorem settleG {A:List KRow} {F:List At} {R:List MRow} (k1:ans (env P) 83 [.agg (nsP s)]=some (.agg (nsP s))) (k2:ans (env P) 21 [.agg (nsP s)]=some (lv A)) (k3:ans (env P) 86 [lv A]=some (lv F)) (k4:ans (env P) 85 [lv s.rows,sv s.id,lv F]=some (lv R)) :
  ans (env P) 41 [.agg (nsP s)]=some (.agg (nsP { s with rows:=R })):=by
 simp only [nsP] at k1 k2
 refine ans_V rfl rfl ?_
 simp [c41,nsP,lv,lvP,k1,k2,k3,k4]
def mine (s:NS) (x:Item):Item:={ x with id:=s.id,seq:=s.seq+1,stamp:=s.clock+1 }
theorem eventG {x:Item} {K':List KRow} {S':List Item} {b:Bool} {s':NS} (h1:s.seq < 1048575) (h2:s.clock < 1048575) (h3:0≤s.seq) (h4:0≤s.clock) (k1:ans (env P) 83 [.agg (nsP s)]=some (.agg (nsP s))) (k2:ans (env P) 148 [lv s.know,sv s.id,iv (s.seq+1)]=some (lv K'))
  (k3:ans (env P) 70 [lvP s.store,.agg (itP (mine s x))]=some (.tup [lvP S',bv b])) (k4:ans (env P) 41 [.agg (nsP { s with seq:=s.seq+1,clock:=s.clock+1,know:=K',store:=S' })]=some (.agg (nsP s'))) :
  ans (env P) 82 [.agg (nsP s),.agg (itP x)]=some (.tup [.agg (nsP s'),iv 0]):=by
 have w1:IntKind.i64.wrap (s.seq+1)=s.seq+1:=wrap64_id (by omega)
 have w2:IntKind.i64.wrap (s.clock+1)=s.clock+1:=wrap64_id (by omega)
 have q1:¬ (1048575:Int)≤s.seq:=by omega
 have q2:¬ (1048575:Int)≤s.clock:=by omega
 simp only [nsP,itP,mine,lvP] at k1 k2 k3 k4
 refine ans_V rfl rfl ?_
 simp [c82,resV,resP,nsP,lv,lvP,k1,k2,k3,k4,w1,w2,q1,q2]
 all_goals done
theorem thereG (T:TB P) (h0:s.how=0) {k:Int} (hk:0≤k∧k≤31) (hv:Srt cmpI Item.key s.store) (hL:s.store.length≤most):ans (env P) 97 [.agg (nsP s),iv k]=some (match getA Item.key s.store k with
  | some x=>if x.dead=true then .tup [.agg [iv 0,sv [],iv 0,iv 0,bv false,.val (.complex .f64 0 0),sv [],bv false],iv 11] else .tup [.agg (itP x),iv 0]
  | none=>.tup [.agg [iv 0,sv [],iv 0,iv 0,bv false,.val (.complex .f64 0 0),sv [],bv false],iv 11]):=by
 have g:=storeGet_ans T (k:=k) hv hL
 have q2:¬ k < 0:=by omega
 have q3:¬ 32≤k:=by omega
 cases hg:getA Item.key s.store k with
 | none =>
   rw [hg] at g
   simp only [lvP] at g
   refine ans_V rfl rfl ?_
   simp [c97,resV,resP,nsP,lv,lvP,h0,q2,q3,g]
 | some x =>
   rw [hg] at g
   simp only [lvP,itP] at g
   cases hd:x.dead with
   | true =>
     rw [hd] at g
     refine ans_V rfl rfl ?_
     simp [c97,resV,resP,nsP,lv,lvP,itP,h0,q2,q3,g,hd]
   | false =>
     rw [hd] at g
     refine ans_V rfl rfl ?_
     simp [c97,resV,resP,nsP,lv,lvP,itP,h0,q2,q3,g,hd]
theorem deleteN {k:Int} {e:Int} (he:¬ e=0) {cs:List PV} (hcs:cs=[iv 0,sv [],iv 0,iv 0,bv false,.val (.complex .f64 0 0),sv [],bv false]) (k1:ans (env P) 97 [.agg (nsP s),iv k]=some (.tup [.agg cs,iv e])):ans (env P) 58 [.agg (nsP s),iv k]=some (.tup [.agg (nsP s),iv e]):=by
 subst hcs
 simp only [nsP] at k1
 refine ans_V rfl rfl ?_
 simp [c58,resV,resP,nsP,lv,lvP,k1,he]
end
end Go.Evl.Zone

namespace Go.Evl.Zone
open Go Go.Evl Go.Evl.Fl
variable {P:Program}
structure UOK (U:List Bytes):Prop where
 r:∀ a∈U,idR a=true
 n:U.length≤1000
theorem UOK.pR {U:List Bytes} (h:UOK U) {a:Bytes} (ha:a∈U):ans (env P) 53 [sv a]=some (bv true):=by rw [idRight_ans,h.r a ha]
theorem UOK.rR {U:List Bytes} (h:UOK U) {a:Bytes} (ha:a∈U):ans (env P) 165 [sv a]=some (bv true):=by rw [r1Right_ans,h.r a ha]
theorem UOK.b {U:List Bytes} (h:UOK U) {a:Bytes} (ha:a∈U):a.length≤big:=idR_big (h.r a ha)
theorem nodup_sub {α:Type} [DecidableEq α]:∀ {l U:List α},l.Nodup→(∀ a∈l,a∈U)→l.length≤U.length
 | [],U,_,_=>by simp
 | a::l,U,hn,hs=>by
   have ha:=hs a (by simp)
   rw [List.nodup_cons] at hn
   have ih:=nodup_sub (U:=U.erase a) hn.2 fun b hb=>(List.mem_erase_of_ne (fun e:b=a=>hn.1 (by rw [← e]; exact hb))).2 (hs b (by simp [hb]))
   rw [List.length_erase_of_mem ha] at ih
   have:=List.length_pos_of_mem ha
   simp only [List.length_cons]
   omega
theorem srt_len {α κ:Type} [DecidableEq κ] {cmp:κ→κ→Int} (hc:Cmp cmp) {key:α→κ} {l:List α} {U:List κ} (h:Srt cmp key l) (hu:∀ q∈l,key q∈U):l.length≤U.length:=by
 have hn:(l.map key).Nodup:=by
  unfold List.Nodup
  rw [List.pairwise_map]
  exact h.imp fun {a b} hab e=>by rw [e,hc.self] at hab; omega
 have:=nodup_sub hn fun a ha=>by
  obtain ⟨q,hq,rfl⟩:=List.mem_map.1 ha
  exact hu q hq
 simpa using this
def keys32:List Int:=(List.range 32).map fun (n:Nat)=>(n:Int)
structure WN (U:List Bytes) (s:NS):Prop where
 idU:s.id∈U
 how:0≤s.how∧s.how≤2
 kids:0≤s.kids∧s.kids≤9
 seq:0≤s.seq∧s.seq≤1048575
 clock:0≤s.clock∧s.clock≤1048575
 know:KOK s.know
 knowU:∀ r∈s.know,r.id∈U
 gone:s.gone=[]
 floor:s.floor=[]
 store:Srt cmpI Item.key s.store
 storeK:∀ q∈s.store,q.key∈keys32
 storeU:∀ q∈s.store,q.id∈U
 storeS:∀ q∈s.store,q.sm
 zone:s.zone.length≤100
 zoneB:∀ q∈s.zone,q.sm
 zoneR:zoneRight (toSI s.zone)=true
 members:idSrt s.members
 membersU:∀ a∈s.members,a∈U
 certs:VOK s.certs
 certsU:∀ q∈s.certs,q.id∈U
 rows:MOK s.rows
 rowsU:∀ r∈s.rows,r.id∈U
 vecsU:∀ r∈s.rows,∀ q∈r.vec,q.id∈U
section
variable {U:List Bytes} {s:NS}
theorem WN.kl (h:WN U s):s.know.length≤U.length:=srt_len cmpB_ok h.know.srt h.knowU
theorem WN.ml (h:WN U s):s.members.length≤U.length:=srt_len cmpB_ok h.members h.membersU
theorem WN.cl (h:WN U s):s.certs.length≤U.length:=srt_len cmpB_ok h.certs.srt h.certsU
theorem WN.rl (h:WN U s):s.rows.length≤U.length:=srt_len cmpB_ok h.rows.srt h.rowsU
theorem WN.vl (h:WN U s):∀ r∈s.rows,r.vec.length≤U.length:=fun r hr=>srt_len cmpB_ok (h.rows.ok r hr).srt (h.vecsU r hr)
theorem WN.sl (h:WN U s):s.store.length≤32:=by
 have:=srt_len cmpI_ok h.store h.storeK
 simpa [keys32] using this
theorem WN.nb (hU:UOK U) (h:WN U s):NB s where
 gone:=by rw [h.gone]; simp
 floor:=by rw [h.floor]; simp
 store:=by have:=h.sl; unfold most; omega
 zone:=by have:=h.zone; unfold most; omega
 members:=by have:=h.ml; have:=hU.n; unfold most; omega
 certs:=by have:=h.cl; have:=hU.n; unfold most; omega
theorem WN.union0 (hU:UOK U) (T:TB P) (h:WN U s):ans (env P) 90 [lv s.know,.im [] false]=some (lv s.know) :=
 kUnion_ans T h.know KOK.nil (by have:=h.kl; have:=hU.n; simp; unfold most; omega)
theorem WN.runion0 (hU:UOK U) (h:WN U s):ans (env P) 117 [lv s.know,.im [] false]=some (lv s.know) :=
 r4Union_ans h.know (fun q hq=>hU.b (h.knowU q hq)) KOK.nil (fun q hq=>by simp at hq) (by have:=h.kl; have:=hU.n; simp; unfold most; omega)
theorem WN.fit2 (hU:UOK U) (h:WN U s) {k B:Nat} (hk:k≤1000) (hB:B≤1000):Fit2 s.rows k B:=by
 have hn:=hU.n
 have hr:=h.rl
 have hm:(k+1) * B≤1001 * 1000:=Nat.mul_le_mul (by omega) hB
 refine ⟨by unfold most; omega,by unfold most; omega,fun q hq=>?_⟩
 have:=h.vl q hq
 unfold most; omega
theorem WN.copied (hU:UOK U) (T:TB P) (h:WN U s):ans (env P) 83 [.agg (nsP s)]=some (.agg (nsP s)) :=
 copiedG (h.nb hU) (h.union0 hU T) (mMerge_ans (n:=[]) T h.rows (by simp) (by simp) (by simp) (B:=0) (by simp) (h.fit2 hU (by simp) (by simp)))
theorem WN.all (hU:UOK U) (T:TB P) (h:WN U s):ans (env P) 21 [.agg (nsP s)]=some (lv s.know) :=
 allG (G:=[]) (by rw [h.gone]; exact kFrom_ans VOK.nil (by simp)) (h.union0 hU T)
theorem WN.rall (hU:UOK U) (h:WN U s):ans (env P) 43 [.agg (nsR s)]=some (lv s.know):=by
 have k1:ans (env P) 118 [lv s.gone]=some (.im [] false):=by rw [h.gone]; exact r4From_ans (by simp)
 have k2:=h.runion0 (P:=P) hU
 refine ans_V rfl rfl ?_
 simp [c43,nsR,lv,lvR,k1,k2]
def settleS (s:NS):NS:={ s with rows:=putM s.rows s.id (fstK s.know) }
theorem fstK_U (h:WN U s):∀ q∈fstK s.know,q.id∈U:=fun q hq=>by
 obtain ⟨r,hr,rfl,_⟩:=fstK_mem hq
 exact h.knowU r hr
theorem WN.mput (hU:UOK U) (T:TB P) (h:WN U s) {a:Bytes} {v:List At} (ha:a∈U) (hv:VOK v) (hvU:∀ q∈v,q.id∈U):ans (env P) 85 [lv s.rows,sv a,lv v]=some (lv (putM s.rows a v)):=by
 have hn:=hU.n
 have hr:=h.rl
 have hvl:=srt_len cmpB_ok hv.srt hvU
 exact mPut_ans T h.rows hv (hU.pR ha) (fun q hq=>hU.pR (hvU q hq)) (by unfold most; omega) (fun q hq=>by have:=h.vl q hq; unfold most; omega) (by unfold most; omega)
theorem WN.rput (hU:UOK U) (h:WN U s) {a:Bytes} {v:List At} (ha:a∈U) (hv:VOK v) (hvU:∀ q∈v,q.id∈U):ans (env P) 104 [lv s.rows,sv a,lv v]=some (lv (putM s.rows a v)):=by
 have hn:=hU.n
 have hr:=h.rl
 have hvl:=srt_len cmpB_ok hv.srt hvU
 exact r10Put_ans h.rows (fun q hq=>hU.b (h.rowsU q hq)) (fun q hq z hz=>hU.b (h.vecsU q hq z hz)) (hU.b ha) hv (fun q hq=>hU.b (hvU q hq)) (hU.rR ha) (by unfold most; omega) (fun q hq=>by have:=h.vl q hq; unfold most; omega) (by unfold most; omega)
theorem WN.firsts (hU:UOK U) (T:TB P) (h:WN U s):ans (env P) 86 [lv s.know]=some (lv (fstK s.know)) :=
 kFirsts_ans T h.know (fun q hq=>hU.pR (h.knowU q hq)) (by have:=h.kl; have:=hU.n; unfold most; omega)
theorem WN.rfirsts (hU:UOK U) (h:WN U s):ans (env P) 121 [lv s.know]=some (lv (fstK s.know)) :=
 r4Firsts_ans (by have:=h.kl; have:=hU.n; unfold most; omega)
theorem WN.settle (hU:UOK U) (T:TB P) (h:WN U s):ans (env P) 41 [.agg (nsP s)]=some (.agg (nsP (settleS s))) :=
 settleG (h.copied hU T) (h.all hU T) (h.firsts hU T) (h.mput hU T h.idU (fstK_vok h.know) (fstK_U h))
theorem WN.rsettle (hU:UOK U) (h:WN U s):ans (env P) 45 [.agg (nsR s)]=some (.agg (nsR (settleS s))):=by
 have k2:=h.rall (P:=P) hU
 have k3:=h.rfirsts (P:=P) hU
 have k4:=h.rput (P:=P) hU h.idU (fstK_vok h.know) (fstK_U h)
 simp only [nsR] at k2
 refine ans_V rfl rfl ?_
 simp [c45,nsR,lv,lvR,k2,k3,k4]
 simp [settleS]
end
end Go.Evl.Zone

namespace Go.Evl.Zone
open Go Go.Evl Go.Evl.Fl
variable {P:Program}
section
variable {U:List Bytes} {s:NS}
theorem joinV_U {b:List At}:(∀ q∈b,1≤q.n∧q.n≤1048576)→(∀ q∈b,q.id∈U)→∀ w:List At,VOK w→(∀ q∈w,q.id∈U)→∀ q∈joinV w b,q.id∈U:=by
 induction b with
 | nil=>exact fun _ _ w _ h=>h
 | cons z b ih =>
   intro hb hbU w hw h
   refine ih (fun q hq=>hb q (by simp [hq])) (fun q hq=>hbU q (by simp [hq])) (setV w z.id z.n) (hw.set (hb z (by simp)).1 (hb z (by simp)).2) fun q hq=>?_
   rcases (mem_put cmpB_ok hw.srt).1 hq with rfl | hq
   ·exact hbU z (by simp)
   ·exact h q hq.1
theorem putM_U {m:List MRow} (hm:MOK m) {a:Bytes} {v:List At} (hr:∀ r∈m,r.id∈U) (hq:∀ r∈m,∀ q∈r.vec,q.id∈U) (ha:a∈U) (hv:VOK v) (hvU:∀ q∈v,q.id∈U):(∀ r∈putM m a v,r.id∈U)∧∀ r∈putM m a v,∀ q∈r.vec,q.id∈U:=by
 have hg:∀ q∈getM m a,q.id∈U:=fun q h=>by
  unfold getM at h
  split at h
  ·rename_i r hr'
   exact hq r (get_mem hr').1 q h
  ·simp at h
 unfold putM
 split
 ·exact ⟨hr,hq⟩
 ·refine ⟨fun r h=>?_,fun r h=>?_⟩
  ·rcases (mem_put cmpB_ok hm.srt).1 h with rfl | h
   ·exact ha
   ·exact hr r h.1
  ·rcases (mem_put cmpB_ok hm.srt).1 h with rfl | h
   ·exact joinV_U hv.rng hvU _ (getM_vok hm a) hg
   ·exact hq r h.1
theorem WN.settleS (h:WN U s):WN U (settleS s):=by
 obtain ⟨h1,h2⟩:=putM_U h.rows h.rowsU h.vecsU h.idU (fstK_vok h.know) (fstK_U h)
 exact { h with rows:=h.rows.put (fstK_vok h.know).rng,rowsU:=h1,vecsU:=h2 }
theorem withK_U {k:List KRow} (hk:KOK k) {a:Bytes} {t:Sp} (ht:t.ok) (h:∀ r∈k,r.id∈U) (ha:a∈U):∀ r∈withK k a t,r.id∈U:=fun r hr=>by
 unfold withK at hr
 rcases (mem_put cmpB_ok hk.srt).1 hr with rfl | hr
 ·exact ha
 ·exact h r hr.1
theorem putI_srt {v:List Item} {x:Item} (h:Srt cmpI Item.key v):Srt cmpI Item.key (putI v x).1:=by
 unfold putI
 split
 ·split
  ·exact srt_put cmpI_ok h
  ·exact h
 ·exact srt_put cmpI_ok h
theorem putI_mem {v:List Item} {x y:Item} (h:Srt cmpI Item.key v) (hy:y∈(putI v x).1):y=x∨y∈v:=by
 have key:y∈putA cmpI Item.key x v→y=x∨y∈v:=fun hy=>((mem_put cmpI_ok h).1 hy).imp id fun q=>q.1
 unfold putI at hy
 split at hy
 ·split at hy
  ·exact key hy
  ·exact .inr hy
 ·exact key hy
def eventS (s:NS) (x:Item):NS:=settleS { s with seq:=s.seq+1,clock:=s.clock+1,know:=withK s.know s.id (oneS (s.seq+1)),store:=(putI s.store (mine s x)).1 }
theorem WN.ev0 (h:WN U s) {x:Item} (h1:s.seq < 1048575) (h2:s.clock < 1048575) (hk:x.key∈keys32) (hs:(mine s x).sm):WN U { s with seq:=s.seq+1,clock:=s.clock+1,know:=withK s.know s.id (oneS (s.seq+1)),store:=(putI s.store (mine s x)).1 }:=by
 have:=h.seq
 have:=h.clock
 obtain ⟨o1,o2⟩:=oneS_is (n:=s.seq+1) (by omega) (by omega)
 exact { h with
  seq:=⟨by show 0≤s.seq+1; omega,by show s.seq+1≤1048575; omega⟩
  clock:=⟨by show 0≤s.clock+1; omega,by show s.clock+1≤1048575; omega⟩
  know:=h.know.with o1 ((o2 _).2 rfl)
  knowU:=withK_U h.know o1 h.knowU h.idU
  store:=putI_srt h.store
  storeK:=fun q hq=>(putI_mem h.store hq).elim (fun e=>by rw [e]; exact hk) (h.storeK q)
  storeU:=fun q hq=>(putI_mem h.store hq).elim (fun e=>by rw [e]; exact h.idU) (h.storeU q)
  storeS:=fun q hq=>(putI_mem h.store hq).elim (fun e=>by rw [e]; exact hs) (h.storeS q) }
theorem WN.event (hU:UOK U) (T:TB P) (h:WN U s) {x:Item} (h1:s.seq < 1048575) (h2:s.clock < 1048575) (hk:x.key∈keys32) (hs:(mine s x).sm):ans (env P) 82 [.agg (nsP s),.agg (itP x)]=some (.tup [.agg (nsP (eventS s x)),iv 0]):=by
 have hq:=h.seq
 have hc:=h.clock
 have hn:=hU.n
 have hkl:=h.kl
 have hsl:=h.sl
 refine eventG (b:=(putI s.store (mine s x)).2) h1 h2 hq.1 hc.1 (h.copied hU T) (kAdd_ans T h.know (hU.pR h.idU) (by omega) (by omega) (by unfold most; omega)) (storePut_ans T h.store (by unfold most; omega)) ((h.ev0 h1 h2 hk hs).settle hU T)
theorem WN.revent (hU:UOK U) (T:TB P) (h:WN U s) {x:Item} (h1:s.seq < 1048575) (h2:s.clock < 1048575) (hk:x.key∈keys32) (hs:(mine s x).sm):ans (env P) 129 [.agg (nsR s),.agg (itR x)]=some (.agg (nsR (eventS s x))):=by
 have hq:=h.seq
 have hc:=h.clock
 have hn:=hU.n
 have hkl:=h.kl
 have hsl:=h.sl
 have w1:IntKind.i64.wrap (s.seq+1)=s.seq+1:=wrap64_id (by omega)
 have w2:IntKind.i64.wrap (s.clock+1)=s.clock+1:=wrap64_id (by omega)
 have k1:=r4Add_ans (P:=P) (n:=s.seq+1) h.know (fun q hq=>hU.b (h.knowU q hq)) (hU.b h.idU) (hU.rR h.idU) (by omega) (by omega) (by unfold most; omega)
 have k2:=r8Put_ans (P:=P) (x:=mine s x) T h.store (fun q hq=>hU.b (h.storeU q hq)) (hU.b h.idU) (by unfold most; omega)
 have k3:=(h.ev0 h1 h2 hk hs).rsettle (P:=P) hU
 simp only [itR,mine,nsR] at k2 k3
 refine ans_V rfl rfl ?_
 simp [c129,resV,resP,nsR,lv,lvR,itR,k1,k2,k3,w1,w2]
 (repeat' apply And.intro) <;> rfl
end
end Go.Evl.Zone

namespace Go.Evl.Zone
open Go Go.Evl Go.Evl.Fl
variable {P:Program}
section
variable {Z:List RS} {k x y:Int} {t:Bytes}
end
end Go.Evl.Zone

namespace Go.Evl.Zone
open Go Go.Evl Go.Evl.Fl
variable {P:Program}
section
variable {U:List Bytes} {s:NS}
theorem si_okS {l:List RS} (h:∀ q∈l,q.sm):∀ q∈toSI l,q.ok:=by
 intro q hq
 obtain ⟨r,hr,rfl⟩:=List.mem_map.1 hq
 obtain ⟨a1,a2,a3⟩:=h r hr
 exact ⟨Is.nearest (lt53 (by unfold smI at a1; omega)),Is.nearest (lt53 (by unfold smI at a2; omega)),Is.nearest (lt53 (by unfold smI at a3; omega))⟩
theorem WN.zHas (h:WN U s) {x y:Int} (hx:smI x) (hy:smI y):ans (env P) 81 [.im (stepsV (toSI s.zone)) false,cw x y]=some (bv (zoneHas (toSI s.zone) x y)):=zoneHas_ans (si_okS h.zoneB) (Is.nearest (lt53 (by unfold smI at hx; omega))) (Is.nearest (lt53 (by unfold smI at hy; omega)))
theorem WN.rHas (h:WN U s) {x y:Int}:ans (env P) 29 [.im (rsV s.zone) false,.agg [iv x,iv y]]=some (bv (zoneHas (toSI s.zone) x y)):=refHas_ans h.zoneR
theorem eventFull {x:Item} (h:1048575≤s.seq∨1048575≤s.clock):ans (env P) 82 [.agg (nsP s),.agg (itP x)]=some (.tup [.agg (nsP s),iv 10]):=by
 refine ans_V rfl rfl ?_
 by_cases h1:1048575≤s.seq
 ·simp [c82,nsP,itP,resV,resP,h1]
 ·have h2:1048575≤s.clock:=h.resolve_left h1
  simp [c82,nsP,itP,resV,resP,h1,h2]
def fullS (s:NS):Bool:=decide (1048575≤s.seq) || decide (1048575≤s.clock)
def evS (s:NS) (x:Item):NS × Int:=if fullS s=true then (s,10) else (eventS s x,0)
noncomputable def writeS (s:NS) (k x y:Int) (t:Bytes):NS × Int :=
 if s.how≠0 then (s,5) else if k < 0∨31 < k then (s,6) else if (near x && near y)=false then (s,8) else if zoneHas (toSI s.zone) x y=false then (s,9) else if 16 < t.length then (s,7) else evS s ⟨k,[],0,0,false,x,y,t,true⟩
theorem key32 {k:Int} (h:¬ (k < 0∨31 < k)):k∈keys32:=by
 simp only [keys32,List.mem_map,List.mem_range]
 exact ⟨k.toNat,by omega,by omega⟩
theorem WN.evP (hU:UOK U) (T:TB P) (h:WN U s) {x:Item} (hk:x.key∈keys32) (hs:x.sm):ans (env P) 82 [.agg (nsP s),.agg (itP x)]=some (.tup [.agg (nsP (evS s x).1),iv (evS s x).2]):=by
 unfold evS
 by_cases hf:fullS s=true
 ·rw [if_pos hf]
  simp only [fullS,Bool.or_eq_true,decide_eq_true_eq] at hf
  exact eventFull hf
 ·rw [if_neg hf]
  simp only [fullS,Bool.or_eq_true,decide_eq_true_eq] at hf
  exact h.event hU T (by omega) (by omega) hk hs
theorem WN.write (hU:UOK U) (T:TB P) (h:WN U s) {k x y:Int} {t:Bytes} (hx:smI x) (hy:smI y):ans (env P) 17 [.agg (nsP s),iv k,cw x y,sv t]=some (.tup [.agg (nsP (writeS s k x y t).1),iv (writeS s k x y t).2]):=by
 have z4:=h.zHas (P:=P) hx hy
 have z6:ans (env P) 80 [cw x y]=some (bv (near x && near y)):=whole_is (Is.nearest (lt53 (by unfold smI at hx; omega))) (Is.nearest (lt53 (by unfold smI at hy; omega)))
 unfold writeS
 refine ans_V rfl rfl ?_
 by_cases c1:s.how=0
 ·by_cases c2:k < 0∨31 < k
  ·rw [if_neg (by simp [c1]),if_pos c2]
   by_cases c3:k < 0
   ·simp [c17,nsP,resV,resP,c1,c3]
   ·have c4:32≤k:=by omega
    simp [c17,nsP,resV,resP,c1,c3,c4]
  ·have c3:¬ k < 0:=by omega
   have c4:¬ 32≤k:=by omega
   rw [if_neg (by simp [c1]),if_neg c2]
   cases hw:(near x && near y) with
   | false =>
     rw [hw] at z6
     rw [if_pos rfl]
     simp [c17,nsP,resV,resP,c1,c3,c4,z6]
   | true =>
     rw [hw] at z6
     rw [if_neg (by simp)]
     cases hz:zoneHas (toSI s.zone) x y with
     | false =>
       rw [hz] at z4
       rw [if_pos rfl]
       simp [c17,nsP,resV,resP,c1,c3,c4,z6,z4]
     | true =>
       rw [hz] at z4
       rw [if_neg (by simp)]
       by_cases ht:16 < t.length
       ·rw [if_pos ht]
        have ht':(16:Int) < (t.length:Int):=by omega
        simp [c17,nsP,resV,resP,c1,c3,c4,z6,z4,sv_size,ht,ht']
       ·rw [if_neg ht]
        have ht':¬ (16:Int) < (t.length:Int):=by omega
        have ke:=h.evP (P:=P) hU T (x:=⟨k,[],0,0,false,x,y,t,true⟩) (key32 c2) ⟨hx,hy⟩
        obtain ⟨r,hr⟩:∃ r,r=evS s ⟨k,[],0,0,false,x,y,t,true⟩:=⟨_,rfl⟩
        rw [← hr] at ke ⊢
        simp only [nsP,itP,c1] at ke
        simp [c17,nsP,resV,resP,c1,c3,c4,z6,z4,sv_size,ht,ht',ke]
 ·rw [if_pos c1]
  simp [c17,nsP,resV,resP,c1]
theorem WN.rwrite (hU:UOK U) (T:TB P) (h:WN U s) {k x y:Int} {t:Bytes} (hx:smI x) (hy:smI y):ans (env P) 66 [.agg (nsR s),iv k,.agg [iv x,iv y],sv t]=some (.tup [.agg (nsR (writeS s k x y t).1),iv (writeS s k x y t).2]):=by
 have z4:=h.rHas (P:=P) (x:=x) (y:=y)
 have z6:ans (env P) 99 [.agg [iv x,iv y]]=some (bv (near x && near y)):=refWhole_ans
 unfold writeS
 refine ans_V rfl rfl ?_
 by_cases c1:s.how=0
 ·by_cases c2:k < 0∨31 < k
  ·rw [if_neg (by simp [c1]),if_pos c2]
   by_cases c3:k < 0
   ·simp [c66,nsR,resV,resP,c1,c3]
   ·have c4:31 < k:=by omega
    simp [c66,nsR,resV,resP,c1,c3,c4]
  ·have c3:¬ k < 0:=by omega
   have c4:¬ 31 < k:=by omega
   rw [if_neg (by simp [c1]),if_neg c2]
   cases hw:(near x && near y) with
   | false =>
     rw [hw] at z6
     rw [if_pos rfl]
     simp [c66,nsR,resV,resP,c1,c3,c4,z6]
   | true =>
     rw [hw] at z6
     rw [if_neg (by simp)]
     cases hz:zoneHas (toSI s.zone) x y with
     | false =>
       rw [hz] at z4
       rw [if_pos rfl]
       simp [c66,nsR,resV,resP,c1,c3,c4,z6,z4]
     | true =>
       rw [hz] at z4
       rw [if_neg (by simp)]
       by_cases ht:16 < t.length
       ·rw [if_pos ht]
        have ht':(16:Int) < (t.length:Int):=by omega
        simp [c66,nsR,resV,resP,c1,c3,c4,z6,z4,sv_size,ht,ht']
       ·rw [if_neg ht]
        have ht':¬ (16:Int) < (t.length:Int):=by omega
        unfold evS
        by_cases hf:fullS s=true
        ·rw [if_pos hf]
         simp only [fullS,Bool.or_eq_true,decide_eq_true_eq] at hf
         by_cases f1:1048575≤s.seq
         ·simp [c66,nsR,resV,resP,c1,c3,c4,z6,z4,sv_size,ht,ht',f1]
         ·have f2:1048575≤s.clock:=hf.resolve_left f1
          simp [c66,nsR,resV,resP,c1,c3,c4,z6,z4,sv_size,ht,ht',f1,f2]
        ·rw [if_neg hf]
         simp only [fullS,Bool.or_eq_true,decide_eq_true_eq] at hf
         have f1:¬ 1048575≤s.seq:=by omega
         have f2:¬ 1048575≤s.clock:=by omega
         have ke:=h.revent (P:=P) hU T (x:=⟨k,[],0,0,false,x,y,t,true⟩) (by omega) (by omega) (key32 c2) ⟨hx,hy⟩
         obtain ⟨r,hr⟩:∃ r,r=eventS s ⟨k,[],0,0,false,x,y,t,true⟩:=⟨_,rfl⟩
         rw [← hr] at ke ⊢
         simp only [nsR,itR,c1] at ke
         simp [c66,nsR,resV,resP,c1,c3,c4,z6,z4,sv_size,ht,ht',f1,f2,ke]
 ·rw [if_pos c1]
  simp [c66,nsR,resV,resP,c1]
end
end Go.Evl.Zone

namespace Go.Evl.Zone
open Go Go.Evl Go.Evl.Fl
variable {P:Program}
section
variable {U:List Bytes} {s:NS}
theorem sm0:smI 0:=by unfold smI; omega
abbrev none8:List PV:=[iv 0,sv [],iv 0,iv 0,bv false,.val (.complex .f64 0 0),sv [],bv false]
abbrev dead1 (k:Int):Item:=⟨k,[],0,0,true,0,0,[],false⟩
def thereS (s:NS) (k:Int):Except Int Item:=if s.how≠0 then .error 5 else if k < 0∨31 < k then .error 6 else match getA Item.key s.store k with
 | some x=>if x.dead=true then .error 11 else .ok x
 | none=>.error 11
theorem WN.there (T:TB P) (h:WN U s) {k:Int}:ans (env P) 97 [.agg (nsP s),iv k]=some (match thereS s k with
  | .ok x=>.tup [.agg (itP x),iv 0]
  | .error e=>.tup [.agg none8,iv e]):=by
 unfold thereS
 by_cases c1:s.how=0
 ·rw [if_neg (by simp [c1])]
  by_cases c2:k < 0∨31 < k
  ·rw [if_pos c2]
   refine ans_V rfl rfl ?_
   by_cases c3:k < 0
   ·simp [c97,nsP,resV,resP,c1,c3]
   ·have c4:32≤k:=by omega
    simp [c97,nsP,resV,resP,c1,c3,c4]
  ·rw [if_neg c2]
   rw [thereG T c1 (by omega) h.store (by have:=h.sl; unfold most; omega)]
   cases getA Item.key s.store k with
   | none=>rfl
   | some x =>
     simp only
     split <;> rfl
 ·rw [if_pos c1]
  refine ans_V rfl rfl ?_
  simp [c97,nsP,resV,resP,c1]
theorem there_err {k e:Int} (h:thereS s k = .error e):¬ e=0:=by
 unfold thereS at h
 split at h
 ·cases h; decide
 ·split at h
  ·cases h; decide
  ·split at h
   ·split at h
    ·cases h; decide
    ·cases h
   ·cases h; decide
theorem there_ok {k:Int} {x:Item} (h:thereS s k = .ok x):s.how=0∧¬ (k < 0∨31 < k)∧getA Item.key s.store k=some x∧x.dead=false:=by
 unfold thereS at h
 split at h
 ·cases h
 ·rename_i h1
  split at h
  ·cases h
  ·rename_i h2
   split at h
   ·rename_i y hy
    split at h
    ·cases h
    ·rename_i h3
     cases h
     exact ⟨by simpa using h1,h2,hy,by simpa using h3⟩
   ·cases h
def deleteS (s:NS) (k:Int):NS × Int:=match thereS s k with
 | .ok _=>evS s (dead1 k)
 | .error e=>(s,e)
theorem WN.delete (hU:UOK U) (T:TB P) (h:WN U s) {k:Int}:ans (env P) 58 [.agg (nsP s),iv k]=some (.tup [.agg (nsP (deleteS s k).1),iv (deleteS s k).2]):=by
 have k1:=h.there (P:=P) T (k:=k)
 unfold deleteS
 cases ht:thereS s k with
 | error e =>
   rw [ht] at k1
   exact deleteN (there_err ht) rfl k1
 | ok x =>
   rw [ht] at k1
   obtain ⟨a1,a2,a3,a4⟩:=there_ok ht
   have ke:=h.evP (P:=P) hU T (x:=dead1 k) (key32 a2) ⟨sm0,sm0⟩
   simp only
   obtain ⟨r,hr⟩:∃ r,r=evS s (dead1 k):=⟨_,rfl⟩
   rw [← hr] at ke ⊢
   have e0:fw 0=0:=near0
   have es:sv []=PV.val (.string ⟨#[]⟩):=rfl
   simp only [nsP,itP,cw,e0,es] at k1 ke
   refine ans_V rfl rfl ?_
   simp [c58,resV,resP,nsP,lv,lvP,k1,ke]
theorem WN.rdelete (hU:UOK U) (T:TB P) (h:WN U s) {k:Int}:ans (env P) 59 [.agg (nsR s),iv k]=some (.tup [.agg (nsR (deleteS s k).1),iv (deleteS s k).2]):=by
 have kg:=r8Get_ans (P:=P) (v:=s.store) (k:=k) (by have:=h.sl; unfold most; omega)
 unfold deleteS thereS
 by_cases c1:s.how=0
 ·rw [if_neg (by simp [c1])]
  by_cases c2:k < 0∨31 < k
  ·rw [if_pos c2]
   refine ans_V rfl rfl ?_
   by_cases c3:k < 0
   ·simp [c59,nsR,resV,resP,c1,c3]
   ·have c4:31 < k:=by omega
    simp [c59,nsR,resV,resP,c1,c3,c4]
  ·have c3:¬ k < 0:=by omega
   have c4:¬ 31 < k:=by omega
   rw [if_neg c2]
   cases hg:getA Item.key s.store k with
   | none =>
     rw [hg] at kg
     simp only [itR] at kg
     refine ans_V rfl rfl ?_
     simp [c59,nsR,resV,resP,c1,c3,c4,kg]
   | some x =>
     rw [hg] at kg
     simp only [itR] at kg
     simp only
     cases hd:x.dead with
     | true =>
       rw [if_pos rfl]
       refine ans_V rfl rfl ?_
       simp [c59,nsR,resV,resP,c1,c3,c4,kg,hd]
     | false =>
       rw [if_neg (by simp)]
       simp only
       unfold evS
       refine ans_V rfl rfl ?_
       by_cases hf:fullS s=true
       ·rw [if_pos hf]
        simp only [fullS,Bool.or_eq_true,decide_eq_true_eq] at hf
        by_cases f1:1048575≤s.seq
        ·simp [c59,nsR,resV,resP,c1,c3,c4,kg,hd,f1]
        ·have f2:1048575≤s.clock:=hf.resolve_left f1
         simp [c59,nsR,resV,resP,c1,c3,c4,kg,hd,f1,f2]
       ·rw [if_neg hf]
        simp only [fullS,Bool.or_eq_true,decide_eq_true_eq] at hf
        have f1:¬ 1048575≤s.seq:=by omega
        have f2:¬ 1048575≤s.clock:=by omega
        have ke:=h.revent (P:=P) hU T (x:=dead1 k) (by omega) (by omega) (key32 c2) ⟨sm0,sm0⟩
        obtain ⟨r,hr⟩:∃ r,r=eventS s (dead1 k):=⟨_,rfl⟩
        rw [← hr] at ke ⊢
        simp only [nsR,itR,c1] at ke
        simp [c59,nsR,resV,resP,c1,c3,c4,kg,hd,f1,f2,ke]
 ·rw [if_pos c1]
  refine ans_V rfl rfl ?_
  simp [c59,nsR,resV,resP,c1]
noncomputable def readS (s:NS) (k:Int):Bytes × Int:=match thereS s k with
 | .error e=>([],e)
 | .ok x=>if zoneHas (toSI s.zone) x.x x.y=false then ([],12) else if x.held=false then ([],13) else (x.text,0)
theorem WN.read (T:TB P) (h:WN U s) {k:Int}:ans (env P) 28 [.agg (nsP s),iv k]=some (.tup [sv (readS s k).1,iv (readS s k).2]):=by
 have k1:=h.there (P:=P) T (k:=k)
 unfold readS
 cases ht:thereS s k with
 | error e =>
   rw [ht] at k1
   have he:=there_err ht
   simp only [nsP] at k1
   refine ans_V rfl rfl ?_
   simp [c28,resV,resP,nsP,lv,lvP,k1,he]
 | ok x =>
   rw [ht] at k1
   obtain ⟨a1,a2,a3,a4⟩:=there_ok ht
   have hx:=h.storeS x (get_mem a3).1
   have kz:=h.zHas (P:=P) hx.1 hx.2
   simp only [nsP,itP] at k1
   refine ans_V rfl rfl ?_
   cases hz:zoneHas (toSI s.zone) x.x x.y with
   | false =>
     rw [hz] at kz
     simp [c28,resV,resP,nsP,lv,lvP,k1,kz,hz]
   | true =>
     rw [hz] at kz
     cases hh:x.held with
     | false =>
       rw [hh] at k1
       simp [c28,resV,resP,nsP,lv,lvP,k1,kz,hz,hh]
     | true =>
       rw [hh] at k1
       simp [c28,resV,resP,nsP,lv,lvP,k1,kz,hz,hh]
end
end Go.Evl.Zone

namespace Go.Evl.Zone
open Go Go.Evl Go.Evl.Fl
variable {P:Program}
section
variable {U:List Bytes} {s:NS}
noncomputable def setZoneS (s:NS) (Z:List RS):NS × Int:=if s.how≠0 then (s,5) else if s.id=[48] then (s,14) else if zoneRight (toSI Z)=false then (s,9) else (settleS { s with zone:=Z },0)
theorem zoneRight_len {l:List SI} (h:zoneRight l=true):l.length≤32∧l≠[]:=by
 unfold zoneRight at h
 simp only [Bool.and_eq_true,decide_eq_true_eq] at h
 refine ⟨h.1,?_⟩
 rintro rfl
 have:=h.2
 simp [foldR] at this
theorem WN.zone0 (h:WN U s) {Z:List RS} (hs:∀ q∈Z,q.sm) (hr:zoneRight (toSI Z)=true):WN U { s with zone:=Z }:=by
 have hl:=(zoneRight_len hr).1
 exact { h with zone:=by simp [toSI] at hl; show Z.length≤100; omega,zoneB:=hs,zoneR:=hr }
theorem WN.setZone (hU:UOK U) (T:TB P) (h:WN U s) {Z:List RS} (hs:∀ q∈Z,q.sm):ans (env P) 25 [.agg (nsP s),.im (stepsV (toSI Z)) false]=some (.tup [.agg (nsP (setZoneS s Z).1),iv (setZoneS s Z).2]):=by
 have kr:=zoneRight_ans (P:=P) (si_okS hs)
 have c1:=fun {dst:Option Nat} {rest:List CI} {i slot slot':Nat} {log:Log} {d:Dr} {K:Ex→St→Prop} {st:St} {ks:List Fr'} {xs:List O}=>VA_prim (E:=env P) (f:=25) (g:=95) (p:=pCloneF 3) (dst:=dst) (rest:=rest) (i:=i) (slot:=slot) (slot':=slot') (log:=log) (d:=d) (K:=K) (st:=st) (ks:=ks) (xs:=xs) rfl
 have hq:=fun t cx cy=>evBin_seql (P:=P) (t:=t) (cx:=cx) (cy:=cy) s.id [48]
 unfold setZoneS
 refine ans_V rfl rfl ?_
 by_cases a1:s.how=0
 ·rw [if_neg (by simp [a1])]
  by_cases a2:s.id=[48]
  ·rw [if_pos a2]
   simp only [a2,decide_true] at hq
   simp [c25,nsP,resV,resP,a1,a2,hq]
  ·rw [if_neg a2]
   simp only [a2,decide_false] at hq
   cases hr:zoneRight (toSI Z) with
   | false =>
     rw [hr] at kr
     rw [if_pos rfl]
     simp [c25,nsP,resV,resP,a1,hq,kr]
   | true =>
     rw [hr] at kr
     rw [if_neg (by simp)]
     have hl:=(zoneRight_len hr).1
     have z1:∀ H,pCloneF 3 [.im (stepsV (toSI Z)) false] H=some ⟨.im (stepsV (toSI Z)) false,H,[],some []⟩:=fun H=>cloneF_ok (by simp) (by simp [stepsV] at hl ⊢; unfold most; omega) (plainss_steps _)
     have ke:=(h.zone0 hs hr).settle (P:=P) hU T
     obtain ⟨r,hr'⟩:∃ r,r=_root_.Go.Evl.Zone.settleS { s with zone:=Z }:=⟨_,rfl⟩
     rw [← hr'] at ke ⊢
     simp only [nsP,a1] at ke
     simp [c25,nsP,resV,resP,a1,hq,kr,c1,z1,ke]
 ·rw [if_pos a1]
  simp [c25,nsP,resV,resP,a1]
theorem WN.rsetZone (hU:UOK U) (T:TB P) (h:WN U s) {Z:List RS} (hs:∀ q∈Z,q.sm):ans (env P) 60 [.agg (nsR s),.im (rsV Z) false]=some (.tup [.agg (nsR (setZoneS s Z).1),iv (setZoneS s Z).2]):=by
 have kr:=refRight_ans (P:=P) (l:=Z)
 have hq:=fun t cx cy=>evBin_seql (P:=P) (t:=t) (cx:=cx) (cy:=cy) s.id [48]
 unfold setZoneS
 refine ans_V rfl rfl ?_
 by_cases a1:s.how=0
 ·rw [if_neg (by simp [a1])]
  by_cases a2:s.id=[48]
  ·rw [if_pos a2]
   simp only [a2,decide_true] at hq
   simp [c60,nsR,resV,resP,a1,a2,hq]
  ·rw [if_neg a2]
   simp only [a2,decide_false] at hq
   cases hr:zoneRight (toSI Z) with
   | false =>
     rw [hr] at kr
     rw [if_pos rfl]
     simp [c60,nsR,resV,resP,a1,hq,kr]
   | true =>
     rw [hr] at kr
     rw [if_neg (by simp)]
     have hl:=(zoneRight_len hr).1
     have hZ:Z≠[]:=fun e=>(zoneRight_len hr).2 (by rw [e]; rfl)
     have ke:=(h.zone0 hs hr).rsettle (P:=P) hU
     obtain ⟨r,hr'⟩:∃ r,r=_root_.Go.Evl.Zone.settleS { s with zone:=Z }:=⟨_,rfl⟩
     rw [← hr'] at ke ⊢
     simp only [nsR,a1] at ke
     have hal:allLen 4 (rsV Z)=true:=by simp
     have hlm:Z.length≤most:=by simp [toSI] at hl; unfold most; omega
     have hp:=plainss_rs Z
     simp [c60,nsR,lv,lvR,a1,hq,kr,elems,chunks]
     refine VP_app (ys:=[]) (Lst.nil) (by simp) (by simp) hal (by simp [rsV]; omega) fun v' H' wr rd e2 e3 e4=>?_
     have b0:=e4 0
     have b1:=e4 1
     simp at b0 b1
     simp only [List.nil_append] at e2
     rcases e2 with ⟨rfl,hz⟩ | ⟨r2,xs,rfl,hbr,hle,he,hr2,_⟩
     ·simp [b0,b1,e3,resV,resP,ke]
     ·have hr0:¬ r2=0:=fun q=>by rw [q,b0] at hbr; cases hbr
      simp at he hle
      rw [e3] at hr2
      simp at hr2
      have hbx:=fun (X:List PV) (is:List Nat) (v:PV)=>own1_box (H:=(H'.put 0 (.box X)).grow 0) (is:=is) (v:=v) (p:=1) (by simp [e3]; exact b1)
      simp [b0,b1,e3,resV,resP,hbr,hle,he,hr2,hp,hr0,ke,own1_v,own1_n,own1_rd,hbx]
 ·rw [if_pos a1]
  simp [c60,nsR,resV,resP,a1]
end
end Go.Evl.Zone

namespace Go.Evl.Zone
open Go Go.Evl Go.Evl.Fl
variable {P:Program}
section
variable {U:List Bytes} {s:NS}
def expelS (s:NS) (a:Bytes):NS × Int:=if s.how≠0 then (s,5) else if a=[48] then (s,14) else if a=s.id then (s,1) else if a∉s.members then (s,4) else if 0 < ofV s.certs a then (s,19) else (settleS { s with certs:=setV s.certs a (lastC (getS s.know a).u) },0)
theorem setV_U {v:List At} (hv:VOK v) {a:Bytes} {n:Int} (h:∀ q∈v,q.id∈U) (ha:a∈U):∀ q∈setV v a n,q.id∈U:=fun q hq=>by
 rcases (mem_put cmpB_ok hv.srt).1 hq with rfl | hq
 ·exact ha
 ·exact h q hq.1
theorem WN.cert0 (h:WN U s) {a:Bytes} (ha:a∈U) (n:Int):WN U { s with certs:=setV s.certs a (lastC n) } :=
 { h with certs:=h.certs.set (lastC_rng n).1 (lastC_rng n).2,certsU:=setV_U h.certs h.certsU ha }
theorem WN.expel (hU:UOK U) (T:TB P) (h:WN U s) {a:Bytes} (ha:a∈U):ans (env P) 63 [.agg (nsP s),sv a]=some (.tup [.agg (nsP (expelS s a).1),iv (expelS s a).2]):=by
 have hn:=hU.n
 have kh:=idHas_ans (P:=P) (n:=a) T h.members (by have:=h.ml; unfold most; omega)
 have kg:=certGone_ans (P:=P) (a:=a) T h.certs (by have:=h.cl; unfold most; omega)
 have kc:=h.copied (P:=P) hU T
 have ka:=h.all (P:=P) hU T
 have ko:=kOf_ans (P:=P) T (id:=a) h.know (by have:=h.kl; unfold most; omega)
 have kp:=certPut_ans (P:=P) (n:=(getS s.know a).u) T h.certs (hU.pR ha) (by have:=h.cl; unfold most; omega)
 have ks:=(h.cert0 ha (getS s.know a).u).settle (P:=P) hU T
 have q1:=fun t cx cy=>evBin_seql (P:=P) (t:=t) (cx:=cx) (cy:=cy) a [48]
 have q2:=fun t cx cy=>evBin_seql (P:=P) (t:=t) (cx:=cx) (cy:=cy) a s.id
 unfold expelS
 refine ans_V rfl rfl ?_
 by_cases a1:s.how=0
 ·rw [if_neg (by simp [a1])]
  by_cases a2:a=[48]
  ·rw [if_pos a2]
   subst a2
   simp only [decide_true] at q1
   simp [c63,nsP,resV,resP,a1,q1]
  ·rw [if_neg a2]
   simp only [a2,decide_false] at q1
   by_cases a3:a=s.id
   ·rw [if_pos a3]
    simp only [a3,decide_true] at q2
    have q1':=q1
    rw [a3] at q1'
    simp [c63,nsP,resV,resP,a1,q1',q2,a3]
   ·rw [if_neg a3]
    simp only [a3,decide_false] at q2
    by_cases a4:a∈s.members
    ·rw [if_neg (by simpa using a4)]
     simp only [a4,decide_true] at kh
     by_cases a5:0 < ofV s.certs a
     ·rw [if_pos a5]
      simp only [a5,decide_true] at kg
      simp [c63,nsP,resV,resP,a1,q1,q2,kh,kg]
     ·rw [if_neg a5]
      simp only [a5,decide_false] at kg
      obtain ⟨r,hr⟩:∃ r,r=_root_.Go.Evl.Zone.settleS { s with certs:=setV s.certs a (lastC (getS s.know a).u) }:=⟨_,rfl⟩
      rw [← hr] at ks ⊢
      simp only [nsP,a1,spV] at ks kc ka ko
      simp [c63,nsP,resV,resP,a1,q1,q2,kh,kg,kc,ka,ko,kp,ks]
    ·rw [if_pos (by simpa using a4)]
     simp only [a4,decide_false] at kh
     simp [c63,nsP,resV,resP,a1,q1,q2,kh]
 ·rw [if_pos a1]
  simp [c63,nsP,resV,resP,a1]
theorem WN.rexpel (hU:UOK U) (h:WN U s) {a:Bytes} (ha:a∈U):ans (env P) 64 [.agg (nsR s),sv a]=some (.tup [.agg (nsR (expelS s a).1),iv (expelS s a).2]):=by
 have hn:=hU.n
 have kh:=r1Has_ans (P:=P) (L:=s.members) (a:=a) (by have:=h.ml; unfold most; omega)
 have kg:=r9Gone_ans (P:=P) (v:=s.certs) (a:=a) (by have:=h.cl; unfold most; omega)
 have ka:=h.rall (P:=P) hU
 have ko:=r4Of_ans (P:=P) (v:=s.know) (a:=a) (by have:=h.kl; unfold most; omega)
 have kp:=r9Put_ans (P:=P) (n:=(getS s.know a).u) h.certs (fun q hq=>hU.b (h.certsU q hq)) (hU.b ha) (hU.rR ha) (by have:=h.cl; unfold most; omega)
 have ks:=(h.cert0 ha (getS s.know a).u).rsettle (P:=P) hU
 have q1:=fun t cx cy=>evBin_seql (P:=P) (t:=t) (cx:=cx) (cy:=cy) a [48]
 have q2:=fun t cx cy=>evBin_seql (P:=P) (t:=t) (cx:=cx) (cy:=cy) a s.id
 unfold expelS
 refine ans_V rfl rfl ?_
 by_cases a1:s.how=0
 ·rw [if_neg (by simp [a1])]
  by_cases a2:a=[48]
  ·rw [if_pos a2]
   subst a2
   simp only [decide_true] at q1
   simp [c64,nsR,resV,resP,a1,q1]
  ·rw [if_neg a2]
   simp only [a2,decide_false] at q1
   by_cases a3:a=s.id
   ·rw [if_pos a3]
    simp only [a3,decide_true] at q2
    have q1':=q1
    rw [a3] at q1'
    simp [c64,nsR,resV,resP,a1,q1',q2,a3]
   ·rw [if_neg a3]
    simp only [a3,decide_false] at q2
    by_cases a4:a∈s.members
    ·rw [if_neg (by simpa using a4)]
     simp only [a4,decide_true] at kh
     by_cases a5:0 < ofV s.certs a
     ·rw [if_pos a5]
      simp only [a5,decide_true] at kg
      simp [c64,nsR,resV,resP,a1,q1,q2,kh,kg]
     ·rw [if_neg a5]
      simp only [a5,decide_false] at kg
      obtain ⟨r,hr⟩:∃ r,r=_root_.Go.Evl.Zone.settleS { s with certs:=setV s.certs a (lastC (getS s.know a).u) }:=⟨_,rfl⟩
      rw [← hr] at ks ⊢
      simp only [nsR,a1,spV] at ks ka ko
      simp [c64,nsR,resV,resP,a1,q1,q2,kh,kg,ka,ko,kp,ks]
    ·rw [if_pos (by simpa using a4)]
     simp only [a4,decide_false] at kh
     simp [c64,nsR,resV,resP,a1,q1,q2,kh]
 ·rw [if_pos a1]
  simp [c64,nsR,resV,resP,a1]
theorem WN.mono {U':List Bytes} (h:WN U s) (hs:∀ a∈U,a∈U'):WN U' s :=
 { h with idU:=hs _ h.idU,knowU:=fun r hr=>hs _ (h.knowU r hr),storeU:=fun q hq=>hs _ (h.storeU q hq),membersU:=fun a ha=>hs _ (h.membersU a ha),certsU:=fun q hq=>hs _ (h.certsU q hq),rowsU:=fun r hr=>hs _ (h.rowsU r hr),vecsU:=fun r hr q hq=>hs _ (h.vecsU r hr q hq) }
end
end Go.Evl.Zone

namespace Go.Evl.Zone
open Go Go.Evl Go.Evl.Fl
variable {P:Program}
def zeroN:NS:=⟨[],0,0,0,0,[],[],[],[],[],[],[],[]⟩
theorem idR_kid {a:Bytes} {k:Nat} (h:idR a=true) (hl:a.length < 6) (h1:1≤k) (h9:k≤9):idR (kidI a k)=true:=by
 cases a with
 | nil=>simp [idR] at h
 | cons b r =>
   simp only [idR,Bool.and_eq_true,decide_eq_true_eq] at h
   simp only [List.length_cons] at hl
   show idR (b::(r++[UInt8.ofNat (48+k)]))=true
   have hd:dig19 (UInt8.ofNat (48+k))=true:=by
    obtain rfl | rfl | rfl | rfl | rfl | rfl | rfl | rfl | rfl:k=1∨k=2∨k=3∨k=4∨k=5∨k=6∨k=7∨k=8∨k=9:=by omega
    all_goals decide
   simp only [idR,Bool.and_eq_true,decide_eq_true_eq,List.length_append,List.length_singleton,List.all_append,List.all_cons,List.all_nil,hd,Bool.and_true]
   exact ⟨⟨by omega,h.1.2⟩,h.2⟩
section
variable {U:List Bytes} {s:NS}
def kidS (s:NS):Bytes:=kidI s.id (s.kids+1).toNat
def par0 (s:NS):NS:={ s with kids:=s.kids+1,members:=uniB s.members [kidS s],rows:=putM s.rows (kidS s) (fstK s.know) }
def kid0 (s:NS):NS:={ settleS (par0 s) with id:=kidS s,kids:=0,seq:=0 }
def mayKid (s:NS):Bool:=decide (s.kids < 9) && decide (s.id.length < 6)
def childS (s:NS):NS × NS × Int:=if s.how≠0 then (s,zeroN,5) else if mayKid s=false then (s,zeroN,18) else (settleS (par0 s),settleS (kid0 s),0)
theorem WN.par0 (hU:UOK U) (h:WN U s) (hm:mayKid s=true) (hk:kidS s∈U):WN U (par0 s):=by
 simp only [mayKid,Bool.and_eq_true,decide_eq_true_eq] at hm
 have:=h.kids
 obtain ⟨h1,h2⟩:=putM_U h.rows h.rowsU h.vecsU hk (fstK_vok h.know) (fstK_U h)
 exact { h with
  kids:=⟨by show 0≤s.kids+1; omega,by show s.kids+1≤9; omega⟩
  members:=uniB_srt _ _
  membersU:=fun a ha=>(mem_uniB.1 ha).elim (h.membersU a) fun q=>by rw [List.mem_singleton.1 q]; exact hk
  rows:=h.rows.put (fstK_vok h.know).rng
  rowsU:=h1
  vecsU:=h2 }
theorem WN.kid0 (hU:UOK U) (h:WN U s) (hm:mayKid s=true) (hk:kidS s∈U):WN U (kid0 s):=by
 have h0:=(h.par0 hU hm hk).settleS
 exact { h0 with idU:=hk,kids:=⟨by show (0:Int)≤0; omega,by show (0:Int)≤9; omega⟩,seq:=⟨by show (0:Int)≤0; omega,by show (0:Int)≤1048575; omega⟩ }
theorem WN.child (hU:UOK U) (T:TB P) (h:WN U s) (hk:s.how=0→mayKid s=true→kidS s∈U):ans (env P) 18 [.agg (nsP s)]=some (.tup [.agg (nsP (childS s).1),.agg (nsP (childS s).2.1),iv (childS s).2.2]):=by
 have hkids:=h.kids
 have hid:=hU.r _ h.idU
 have wk:IntKind.i64.wrap (s.kids+1)=s.kids+1:=wrap64_id (by omega)
 unfold childS
 refine ans_V rfl rfl ?_
 by_cases a1:s.how=0
 ·rw [if_neg (by simp [a1])]
  cases hm:mayKid s with
  | false =>
    rw [if_pos rfl]
    have hm':9 < s.kids+1∨s.id.length=6:=by
     have:=idR_len hid
     simp only [mayKid,Bool.and_eq_false_iff,decide_eq_false_iff_not] at hm
     have h6:s.id.length≤6:=this
     omega
    obtain ⟨e,he,kc⟩:=idChild_full (P:=P) (k:=s.kids+1) hid (by omega) hm'
    simp [c18,nsP,resV,resP,a1,wk,kc,he,zeroN,toSI,stepsV]
  | true =>
    rw [if_neg (by simp)]
    have hku:=hk a1 hm
    simp only [mayKid,Bool.and_eq_true,decide_eq_true_eq] at hm
    have ht:((s.kids+1).toNat:Int)=s.kids+1:=by omega
    have kc:=idChild_ans (P:=P) (k:=(s.kids+1).toNat) T.toTyped3.toTyped2.toTyped hid hm.2 (by omega) (by omega)
    rw [ht] at kc
    have kc:ans (env P) 55 [sv s.id,iv (s.kids+1)]=some (.tup [sv (kidS s),iv 0]):=kc
    have kcp:=h.copied (P:=P) hU T
    have kad:=idAdd_ans (P:=P) (a:=s.members) (b:=kidS s) (by have:=h.ml; have:=hU.n; unfold most; omega)
    have hm2:mayKid s=true:=by simp only [mayKid,Bool.and_eq_true,decide_eq_true_eq]; exact hm
    have h1:WN U { s with kids:=s.kids+1,members:=uniB s.members [kidS s] }:={ h with
     kids:=⟨by show 0≤s.kids+1; omega,by show s.kids+1≤9; omega⟩
     members:=uniB_srt _ _
     membersU:=fun a ha=>(mem_uniB.1 ha).elim (h.membersU a) fun q=>by rw [List.mem_singleton.1 q]; exact hku }
    have kal:=h1.all (P:=P) hU T
    have kf:=h.firsts (P:=P) hU T
    have kmp:=h.mput (P:=P) hU T hku (fstK_vok h.know) (fstK_U h)
    have ks1:=(h.par0 hU hm2 hku).settle (P:=P) hU T
    have ks2:=(h.kid0 hU hm2 hku).settle (P:=P) hU T
    obtain ⟨p,hp⟩:∃ p,p=_root_.Go.Evl.Zone.settleS (_root_.Go.Evl.Zone.par0 s):=⟨_,rfl⟩
    obtain ⟨q,hq⟩:∃ q,q=_root_.Go.Evl.Zone.settleS (_root_.Go.Evl.Zone.kid0 s):=⟨_,rfl⟩
    have hk0:_root_.Go.Evl.Zone.kid0 s={ p with id:=kidS s,kids:=0,seq:=0 }:=by rw [hp]; rfl
    rw [← hp] at ks1 ⊢
    rw [hk0] at ks2 hq
    rw [← hq] at ks2
    rw [hk0,← hq]
    simp only [nsP,a1,_root_.Go.Evl.Zone.par0] at ks1 ks2 kcp kal
    simp [c18,nsP,resV,resP,a1,wk,kc,kcp,kad,kal,kf,kmp,ks1,ks2]
 ·rw [if_pos a1]
  simp [c18,nsP,resV,resP,a1,zeroN,toSI,stepsV]
end
end Go.Evl.Zone

namespace Go.Evl.Zone
open Go Go.Evl Go.Evl.Fl
variable {P:Program}
section
variable {U:List Bytes} {s:NS}
theorem WN.rchild (hU:UOK U) (h:WN U s) (hk:s.how=0→mayKid s=true→kidS s∈U):ans (env P) 61 [.agg (nsR s)]=some (.tup [.agg (nsR (childS s).1),.agg (nsR (childS s).2.1),iv (childS s).2.2]):=by
 have hkids:=h.kids
 have hid:=hU.r _ h.idU
 have wk:IntKind.i64.wrap (s.kids+1)=s.kids+1:=wrap64_id (by omega)
 unfold childS
 refine ans_V rfl rfl ?_
 by_cases a1:s.how=0
 ·rw [if_neg (by simp [a1])]
  cases hm:mayKid s with
  | false =>
    rw [if_pos rfl]
    simp only [mayKid,Bool.and_eq_false_iff,decide_eq_false_iff_not] at hm
    by_cases c1:9≤s.kids
    ·simp [c61,nsR,resV,resP,a1,c1,zeroN,rsV]
    ·have c2:6≤s.id.length:=by omega
     have c2':(6:Int)≤(s.id.length:Int):=by omega
     simp [c61,nsR,resV,resP,a1,c1,sv_size,c2,c2',zeroN,rsV]
  | true =>
    rw [if_neg (by simp)]
    have hku:=hk a1 hm
    simp only [mayKid,Bool.and_eq_true,decide_eq_true_eq] at hm
    have c1:¬ 9≤s.kids:=by omega
    have c2:¬ 6≤s.id.length:=by omega
    have c2':¬ (6:Int)≤(s.id.length:Int):=by omega
    have ht:((s.kids+1).toNat:Int)=s.kids+1:=by omega
    have kc:=r1Child_ans (P:=P) (k:=(s.kids+1).toNat) hid hm.2 (by omega) (by omega)
    rw [ht] at kc
    have kc:ans (env P) 130 [sv s.id,iv (s.kids+1)]=some (.tup [sv (kidS s),iv 0]):=kc
    have kad:ans (env P) 34 [lv s.members,.im [[sv (kidS s)]] false]=some (lv (uniB s.members [kidS s])):=r1Union_ans (b:=[kidS s]) (fun q hq=>hU.b (h.membersU q hq)) (fun q hq=>by rw [List.mem_singleton.1 hq]; exact hU.b hku) (by have:=h.ml; have:=hU.n; simp; unfold most; omega)
    have hm2:mayKid s=true:=by simp only [mayKid,Bool.and_eq_true,decide_eq_true_eq]; exact hm
    have h1:WN U { s with kids:=s.kids+1,members:=uniB s.members [kidS s] }:={ h with
     kids:=⟨by show 0≤s.kids+1; omega,by show s.kids+1≤9; omega⟩
     members:=uniB_srt _ _
     membersU:=fun a ha=>(mem_uniB.1 ha).elim (h.membersU a) fun q=>by rw [List.mem_singleton.1 q]; exact hku }
    have kal:=h1.rall (P:=P) hU
    have kf:=h.rfirsts (P:=P) hU
    have kmp:=h.rput (P:=P) hU hku (fstK_vok h.know) (fstK_U h)
    have ks1:=(h.par0 hU hm2 hku).rsettle (P:=P) hU
    have ks2:=(h.kid0 hU hm2 hku).rsettle (P:=P) hU
    obtain ⟨p,hp⟩:∃ p,p=_root_.Go.Evl.Zone.settleS (_root_.Go.Evl.Zone.par0 s):=⟨_,rfl⟩
    obtain ⟨q,hq⟩:∃ q,q=_root_.Go.Evl.Zone.settleS (_root_.Go.Evl.Zone.kid0 s):=⟨_,rfl⟩
    have hk0:_root_.Go.Evl.Zone.kid0 s={ p with id:=kidS s,kids:=0,seq:=0 }:=by rw [hp]; rfl
    rw [← hp] at ks1 ⊢
    rw [hk0] at ks2 hq
    rw [← hq] at ks2
    rw [hk0,← hq]
    simp only [nsR,a1,_root_.Go.Evl.Zone.par0] at ks1 ks2 kal
    simp [c61,nsR,resV,resP,a1,c1,sv_size,c2,c2',wk,kc,chunks,kad,kal,kf,kmp,ks1,ks2]
 ·rw [if_pos a1]
  simp [c61,nsR,resV,resP,a1,zeroN,rsV]
def metaS (s:NS) (m:List Bytes) (c:List At) (r:List MRow):NS :=
 let C:=joinV s.certs c
 { s with members:=uniB s.members m,certs:=C,rows:=mergeM s.rows r,how:=if s.how=0∧0 < ofV C s.id then 1 else s.how }
structure MU (U:List Bytes) (m:List Bytes) (c:List At) (r:List MRow):Prop where
 ml:m.length≤1000
 mU:∀ a∈m,a∈U
 cv:VOK c
 cU:∀ q∈c,q.id∈U
 rv:∀ x∈r,VOK x.vec
 rl:r.length≤1000
 rU:∀ x∈r,x.id∈U
 vU:∀ x∈r,∀ q∈x.vec,q.id∈U
theorem mergeM_U {n:List MRow}:∀ {m:List MRow},MOK m→(∀ r∈m,r.id∈U)→(∀ r∈m,∀ q∈r.vec,q.id∈U)→(∀ x∈n,VOK x.vec)→(∀ x∈n,x.id∈U)→(∀ x∈n,∀ q∈x.vec,q.id∈U)→(∀ r∈mergeM m n,r.id∈U)∧∀ r∈mergeM m n,∀ q∈r.vec,q.id∈U:=by
 induction n with
 | nil=>exact fun _ h1 h2 _ _ _=>⟨h1,h2⟩
 | cons r n ih =>
   intro m hm h1 h2 hv hU1 hU2
   obtain ⟨a,b⟩:=putM_U hm h1 h2 (hU1 r (by simp)) (hv r (by simp)) (hU2 r (by simp))
   exact ih (hm.put (hv r (by simp)).rng) a b (fun x hx=>hv x (by simp [hx])) (fun x hx=>hU1 x (by simp [hx])) (fun x hx=>hU2 x (by simp [hx]))
theorem WN.meta_ (h:WN U s) {m:List Bytes} {c:List At} {r:List MRow} (hM:MU U m c r):WN U (metaS s m c r):=by
 obtain ⟨h1,h2⟩:=mergeM_U h.rows h.rowsU h.vecsU hM.rv hM.rU hM.vU
 have hh:=h.how
 exact { h with
  how:=by
   show 0≤(if _ then (1:Int) else s.how)∧(if _ then (1:Int) else s.how)≤2
   split <;> omega
  members:=uniB_srt _ _
  membersU:=fun a ha=>(mem_uniB.1 ha).elim (h.membersU a) (hM.mU a)
  certs:=joinV_vok h.certs hM.cv.rng
  certsU:=joinV_U hM.cv.rng hM.cU _ h.certs h.certsU
  rows:=h.rows.merge hM.rv
  rowsU:=h1
  vecsU:=h2 }
theorem WN.metaP (hU:UOK U) (T:TB P) (h:WN U s) {m:List Bytes} {c:List At} {r:List MRow} (hM:MU U m c r):ans (env P) 37 [.agg (nsP s),lv m,lv c,lv r]=some (.agg (nsP (metaS s m c r))):=by
 have hn:=hU.n
 have hml:=h.ml
 have hcl:=h.cl
 have hcl2:=srt_len cmpB_ok hM.cv.srt hM.cU
 have hml2:=hM.ml
 have hvl:∀ x∈r,x.vec.length≤1000:=fun x hx=>Nat.le_trans (srt_len cmpB_ok (hM.rv x hx).srt (hM.vU x hx)) hn
 have kcp:=h.copied (P:=P) hU T
 have k1:=idUnion_ans (P:=P) (a:=s.members) (b:=m) (by unfold most; omega)
 have k2:=certMerge_ans (P:=P) T h.certs hM.cv (fun q hq=>hU.pR (hM.cU q hq)) (by unfold most; omega)
 have k3:=mMerge_ans (P:=P) T h.rows hM.rv (fun x hx=>hU.pR (hM.rU x hx)) (fun x hx q hq=>hU.pR (hM.vU x hx q hq)) (B:=1000) hvl (h.fit2 hU hM.rl (by omega))
 have h2:=h.meta_ hM
 have k4:=certGone_ans (P:=P) (a:=s.id) T h2.certs (by have:=h2.cl; unfold most; omega)
 have k4:ans (env P) 115 [lv (joinV s.certs c),sv s.id]=some (bv (decide (0 < ofV (joinV s.certs c) s.id))):=k4
 simp only [nsP] at kcp
 unfold metaS
 refine ans_V rfl rfl ?_
 by_cases a1:s.how=0
 ·simp only [a1] at kcp
  by_cases a2:0 < ofV (joinV s.certs c) s.id
  ·simp only [a2,decide_true] at k4
   simp [c37,nsP,resV,resP,kcp,k1,k2,k3,k4,a1,a2]
  ·simp only [a2,decide_false] at k4
   simp [c37,nsP,resV,resP,kcp,k1,k2,k3,k4,a1,a2]
 ·simp [c37,nsP,resV,resP,kcp,k1,k2,k3,a1]
theorem WN.rmeta (hU:UOK U) (h:WN U s) {m:List Bytes} {c:List At} {r:List MRow} (hM:MU U m c r):ans (env P) 46 [.agg (nsR s),lv m,lv c,lv r]=some (.agg (nsR (metaS s m c r))):=by
 have hn:=hU.n
 have hml:=h.ml
 have hcl:=h.cl
 have hcl2:=srt_len cmpB_ok hM.cv.srt hM.cU
 have hml2:=hM.ml
 have hvl:∀ x∈r,x.vec.length≤1000:=fun x hx=>Nat.le_trans (srt_len cmpB_ok (hM.rv x hx).srt (hM.vU x hx)) hn
 have k1:=r1Union_ans (P:=P) (a:=s.members) (b:=m) (fun q hq=>hU.b (h.membersU q hq)) (fun q hq=>hU.b (hM.mU q hq)) (by unfold most; omega)
 have k2:=r3Join_ans (P:=P) h.certs (fun q hq=>hU.b (h.certsU q hq)) hM.cv (fun q hq=>hU.b (hM.cU q hq)) (by unfold most; omega)
 have k3:=r10Merge_ans (P:=P) h.rows ⟨fun x hx=>hU.b (h.rowsU x hx),fun x hx q hq=>hU.b (h.vecsU x hx q hq)⟩ hM.rv ⟨fun x hx=>hU.b (hM.rU x hx),fun x hx q hq=>hU.b (hM.vU x hx q hq)⟩ (fun x hx=>hU.rR (hM.rU x hx)) (B:=1000) hvl (h.fit2 hU hM.rl (by omega))
 have h2:=h.meta_ hM
 have k4:=r9Gone_ans (P:=P) (v:=joinV s.certs c) (a:=s.id) (by have:=h2.cl; unfold most; exact Nat.le_trans this (by omega))
 unfold metaS
 refine ans_V rfl rfl ?_
 by_cases a1:s.how=0
 ·by_cases a2:0 < ofV (joinV s.certs c) s.id
  ·simp only [a2,decide_true] at k4
   simp [c46,nsR,resV,resP,k1,k2,k3,k4,a1,a2]
  ·simp only [a2,decide_false] at k4
   simp [c46,nsR,resV,resP,k1,k2,k3,k4,a1,a2]
 ·simp [c46,nsR,resV,resP,k1,k2,k3,a1]
end
end Go.Evl.Zone

namespace Go.Evl.Zone
open Go Go.Evl Go.Evl.Fl
variable {P:Program}
section
variable {U:List Bytes} {s:NS}
def learnS (s:NS) (k:List KRow):NS:={ s with know:=unionK s.know k }
theorem KOK.one {k:List KRow} (h:KOK k) {r:KRow} (hr:r∈k):KOK [r]:=⟨by simp [Srt],fun q hq=>by rw [List.mem_singleton.1 hq]; exact h.ok r hr,fun q hq=>by rw [List.mem_singleton.1 hq]; exact h.ne r hr⟩
theorem unionK_ok {b:List KRow}:∀ {a:List KRow},KOK a→(∀ r∈b,r.sp.ok∧∃ n,r.sp.Has n)→KOK (unionK a b):=by
 induction b with
 | nil=>exact fun h _=>h
 | cons r b ih =>
   intro a h hb
   obtain ⟨h1,n,h2⟩:=hb r (by simp)
   exact ih (h.with h1 h2) fun q hq=>hb q (by simp [hq])
theorem unionK_U {b:List KRow}:∀ {a:List KRow},KOK a→(∀ r∈b,r.sp.ok∧∃ n,r.sp.Has n)→(∀ r∈a,r.id∈U)→(∀ r∈b,r.id∈U)→∀ r∈unionK a b,r.id∈U:=by
 induction b with
 | nil=>exact fun _ _ h _=>h
 | cons r b ih =>
   intro a h hb ha hbU
   obtain ⟨h1,n,h2⟩:=hb r (by simp)
   exact ih (h.with h1 h2) (fun q hq=>hb q (by simp [hq])) (withK_U h h1 ha (hbU r (by simp))) (fun q hq=>hbU q (by simp [hq]))
theorem KOK.all {k:List KRow} (h:KOK k):∀ r∈k,r.sp.ok∧∃ n,r.sp.Has n:=fun r hr=>⟨h.ok r hr,h.ne r hr⟩
theorem WN.learn_ (h:WN U s) {k:List KRow} (hk:KOK k) (hkU:∀ r∈k,r.id∈U):WN U (learnS s k) :=
 { h with know:=unionK_ok h.know hk.all,knowU:=unionK_U h.know hk.all h.knowU hkU }
noncomputable abbrev withKn (s:NS) (K:List KRow):NS:={ s with know:=K }
theorem learnP_loop (hU:UOK U) (T:TB P) {B1:List PV} {k:List KRow} (hk:KOK k) (hkU:∀ r∈k,r.id∈U) (hg:s.gone=[]) {ks:List Fr'} {Q:Ex→St→Prop}:∀ (rest:List KRow) (i:Nat) (st:St) (K:List KRow),k.drop i=rest→i≤k.length→KOK K→(∀ r∈K,r.id∈U)→st.σ 2 = .ptr 0 0→st.h.at_ 0 = .box (nsP (withKn s K))→st.σ 4 = .ptr 1 0→st.h.at_ 1 = .box B1→1 < st.h.n→st.σ 10=lv k→st.σ 11=iv k.length→st.σ 12=iv i →
  (∀ st',st'.σ 2 = .ptr 0 0→st'.h.at_ 0 = .box (nsP (withKn s (unionK K rest)))→st'.σ 4 = .ptr 1 0→st'.h.at_ 1 = .box B1→1 < st'.h.n→VN (env P) 35 st' ks Q)→V (env P) 35 (.loop L35_0) st (.blk 0::ks) Q
 | [],i,st,K,hr,hi,hK,hKU,h2,b0,h4,b1,hn,h10,h11,h12,hend=>by
   obtain ⟨hii,hlt,hd⟩:=drop_nil hr hi
   have n0:0 < st.h.n:=by omega
   rw [V_loop]
   simp [L35_0,h11,h12,hlt]
   exact hend _ (by simp [h2]) (by simp [b0,n0]; rfl) (by simp [h4]) (by simp [b1,hn]) (by simpa using hn)
 | q::rest,i,st,K,hr,hi,hK,hKU,h2,b0,h4,b1,hn,h10,h11,h12,hend=>by
   obtain ⟨hq,hlt,hr',hi'⟩:=drop_cons hr
   have hM:most=68719476736:=rfl
   have hUn:=hU.n
   have hqk:=List.mem_of_getElem? hq
   have n0:0 < st.h.n:=by omega
   have hkl:=srt_len cmpB_ok hk.srt hkU
   have hKl:=srt_len cmpB_ok hK.srt hKU
   have wi:IntKind.i64.wrap ((i:Int)+1)=((i+1:Nat):Int):=by rw [wrap64_id (by omega)]; rfl
   have hc:=En_at hq
   have k1:ans (env P) 108 [.im [] false,sv q.id]=some (iv 0):=vecOf_ans (v:=[]) T List.Pairwise.nil (by simp)
   have k2:ans (env P) 107 [iv 0]=some (.agg [iv 0,.im [] false]):=spanFirst_ans (n:=0)
   have hq1:=hk.one hqk
   have k3:ans (env P) 90 [lv K,.im [[sv q.id,iv q.upto,lv q.extra]] false]=some (lv (unionK K [q])):=kUnion_ans T (b:=[q]) hK hq1 (by simp; omega)
   have hone:unionK K [q]=withK K q.id q.sp:=rfl
   obtain ⟨o1,n,o2⟩:=hk.all q hqk
   have hg':lv s.gone = .im [] false:=by rw [hg]; rfl
   simp only [nsP,withKn,hg'] at b0
   have hne0:¬ (0:Nat)=st.h.n:=by omega
   have hne1:¬ (1:Nat)=st.h.n:=by omega
   rw [V_loop]
   simp [L35_0,h2,h10,h11,h12,b0,n0,hn,hlt,hc,k1,k2,k3,wi,chunks,hne0,hne1]
   refine learnP_loop hU T hk hkU hg rest (i+1) _ (unionK K [q]) hr' (by omega) (by rw [hone]; exact hK.with o1 o2) (by rw [hone]; exact withK_U hK o1 hKU (hkU q hqk)) (by simp [h2]) ?_ (by simp [h4]) ?_ ?_ (by simp [h10]) (by simp [h11]) (by simp) hend
   ·simp [nsP,withKn,hg',n0,hne0]
   ·simp [b1,hn,hne1,show ¬ st.h.n=0 by omega,n0]
   ·simp
theorem WN.learnP (hU:UOK U) (T:TB P) (h:WN U s) {k:List KRow} (hk:KOK k) (hkU:∀ r∈k,r.id∈U):ans (env P) 35 [.agg (nsP s),lv k]=some (.agg (nsP (learnS s k))):=by
 have kcp:=h.copied (P:=P) hU T
 simp only [nsP] at kcp
 refine ans_V rfl rfl ?_
 simp [c35,nsP,kcp]
 refine learnP_loop (s:=s) hU T hk hkU h.gone k 0 _ s.know rfl (by omega) h.know h.knowU (by simp) (by simp) (by simp) (by simp; rfl) (by simp) (by simp) (by simp) (by simp) fun st' h2 b0 h4 b1 hn=>?_
 have n0:0 < st'.h.n:=by omega
 simp only [nsP,withKn] at b0
 simp [h2,b0,h4,b1,hn,n0,resV,resP,learnS]
theorem learnR_loop (hU:UOK U) {B1:List PV} {k:List KRow} (hk:KOK k) (hkU:∀ r∈k,r.id∈U) (hg:s.gone=[]) {ks:List Fr'} {Q:Ex→St→Prop}:∀ (rest:List KRow) (i:Nat) (st:St) (K:List KRow),k.drop i=rest→i≤k.length→KOK K→(∀ r∈K,r.id∈U)→st.σ 2 = .ptr 0 0→st.h.at_ 0 = .box (nsR (withKn s K))→st.σ 4 = .ptr 1 0→st.h.at_ 1 = .box B1→1 < st.h.n→st.σ 1=lv k→st.σ 5=iv i →
  (∀ st',st'.σ 2 = .ptr 0 0→st'.h.at_ 0 = .box (nsR (withKn s (unionK K rest)))→st'.σ 4 = .ptr 1 0→st'.h.at_ 1 = .box B1→1 < st'.h.n→VN (env P) 44 st' ks Q)→V (env P) 44 (.loop L44_0) st (.blk 0::ks) Q
 | [],i,st,K,hr,hi,hK,hKU,h2,b0,h4,b1,hn,h1,h5,hend=>by
   obtain ⟨hii,hlt,hd⟩:=drop_nil hr hi
   have n0:0 < st.h.n:=by omega
   rw [V_loop]
   simp [L44_0,h1,h5,hlt]
   exact hend _ (by simp [h2]) (by simp [b0,n0]; rfl) (by simp [h4]) (by simp [b1,hn]) (by simpa using hn)
 | q::rest,i,st,K,hr,hi,hK,hKU,h2,b0,h4,b1,hn,h1,h5,hend=>by
   obtain ⟨hq,hlt,hr',hi'⟩:=drop_cons hr
   have hM:most=68719476736:=rfl
   have hUn:=hU.n
   have hqk:=List.mem_of_getElem? hq
   have n0:0 < st.h.n:=by omega
   have hkl:=srt_len cmpB_ok hk.srt hkU
   have hKl:=srt_len cmpB_ok hK.srt hKU
   have wi:IntKind.i64.wrap ((i:Int)+1)=((i+1:Nat):Int):=by rw [wrap64_id (by omega)]; rfl
   have hc:=En_at hq
   have k1:ans (env P) 119 [.im [] false,sv q.id]=some (iv 0):=r3Of_ans (v:=[]) (by simp)
   have hq1:=hk.one hqk
   have k3:ans (env P) 117 [lv K,.im [[sv q.id,iv q.upto,lv q.extra]] false]=some (lv (unionK K [q])):=r4Union_ans (b:=[q]) hK (fun z hz=>hU.b (hKU z hz)) hq1 (fun z hz=>by rw [List.mem_singleton.1 hz]; exact hU.b (hkU q hqk)) (by simp; omega)
   have hone:unionK K [q]=withK K q.id q.sp:=rfl
   obtain ⟨o1,n,o2⟩:=hk.all q hqk
   have hg':lv s.gone = .im [] false:=by rw [hg]; rfl
   simp only [nsR,withKn,hg'] at b0
   have hne0:¬ (0:Nat)=st.h.n:=by omega
   have hne1:¬ (1:Nat)=st.h.n:=by omega
   rw [V_loop]
   simp [L44_0,h2,h1,h5,b0,n0,hn,hlt,hc,k1,k3,wi,chunks,hne0,hne1]
   refine learnR_loop hU hk hkU hg rest (i+1) _ (unionK K [q]) hr' (by omega) (by rw [hone]; exact hK.with o1 o2) (by rw [hone]; exact withK_U hK o1 hKU (hkU q hqk)) (by simp [h2]) ?_ (by simp [h4]) ?_ ?_ (by simp [h1]) (by simp) hend
   ·simp [nsR,withKn,hg',n0,hne0]
   ·simp [b1,hn,hne1,show ¬ st.h.n=0 by omega,n0]
   ·simp; omega
theorem WN.learnR (hU:UOK U) (h:WN U s) {k:List KRow} (hk:KOK k) (hkU:∀ r∈k,r.id∈U):ans (env P) 44 [.agg (nsR s),lv k]=some (.agg (nsR (learnS s k))):=by
 refine ans_V rfl rfl ?_
 simp [c44,nsR]
 refine learnR_loop (s:=s) hU hk hkU h.gone k 0 _ s.know rfl (by omega) h.know h.knowU (by simp) (by simp) (by simp) (by simp; rfl) (by simp) (by simp) (by simp) fun st' h2 b0 h4 b1 hn=>?_
 have n0:0 < st'.h.n:=by omega
 simp only [nsR,withKn] at b0
 simp [h2,b0,h4,b1,hn,n0,resV,resP,learnS]
end
end Go.Evl.Zone

namespace Go.Evl.Zone
open Go Go.Evl Go.Evl.Fl
variable {P:Program}
theorem idxStore_loop {l:List Item} {g:FuncId} {caps:List PV} {pr:Item→Bool} {H:Heap} (hh:inlF g=true) (hg:∀ q∈l,∀ H',Gr H H'→∀ K:PV→Heap→List Nat→Prop,K (bv (pr q)) H' []→IC (env P) g (.agg (itP q)::caps) H' K) {ks:List Fr'} {K:Ex→St→Prop} (hL:l.length≤most):∀ (rest:List Item) (i:Nat) (st:St),l.drop i=rest→i≤l.length→st.σ 0=lvP l→st.σ 1 = .fn g caps→st.σ 7=iv l.length→st.σ 8=iv i→Gr H st.h→st.wl=[] →
  (∀ st' (j:Nat),rest.any pr=true→st'.σ 4=iv j→Gr H st'.h→st'.wl=[]→K .ret st')→(∀ st',rest.any pr=false→Gr H st'.h→st'.wl=[]→VN (env P) 218 st' ks K)→V (env P) 218 (.loop L218_0) st (.blk 0::ks) K
 | [],i,st,hr,hile,h0,h1,h7,hi,hG,hw0,hret,hend=>by
   obtain ⟨hii,hlt,hd⟩:=drop_nil hr hile
   rw [V_loop]
   simp [L218_0,h0,h1,h7,hi,hlt]
   exact hend _ rfl hG.grow hw0
 | q::rest,i,st,hr,hile,h0,h1,h7,hi,hG,hw0,hret,hend=>by
   obtain ⟨hq,hlt,hr',_⟩:=drop_cons hr
   have hc:=EnP_at hq
   have hw:=wrapS (i:=i) (by unfold most at hL; omega)
   rw [V_loop]
   simp [L218_0,h0,h1,h7,hi,hlt,hc,hw,hw0]
   refine VA_inl (g:=g) (caps:=caps) ?_ ?_ ?_
   ·simp [h1]
   ·show howF _ g = .inl; unfold howF; rw [hh]; rfl
   try simp only [List.map_cons,List.map_nil,List.cons_append,List.nil_append]
   simp only [evO_t,put_if]
   refine hg q (List.mem_of_getElem? hq) _ (by repeat (first | exact hG | refine Gr.grow ?_)) _ ?_
   simp [hi,hw]
   refine VB_sp (fun h=>?_) (fun h=>?_)
   ·simp
    exact hret _ i (by simp [h]) (by simp) (by repeat (first | exact hG | refine Gr.grow ?_)) rfl
   ·simp [hi,hw]
    exact idxStore_loop hh hg hL rest (i+1) _ hr' (by omega) (by simp [h0]) (by simp [h1]) (by simp [h7]) (by simp) (by repeat (first | exact hG | refine Gr.grow ?_)) rfl (fun st' j a b=>hret st' j (by simp [a]) b) (fun st' a=>hend st' (by simp [a,h]))
theorem idxStore_IC {l:List Item} {g:FuncId} {caps:List PV} {pr:Item→Bool} {H:Heap} (hh:inlF g=true) (hg:∀ q∈l,∀ H',Gr H H'→∀ K:PV→Heap→List Nat→Prop,K (bv (pr q)) H' []→IC (env P) g (.agg (itP q)::caps) H' K) (hL:l.length≤most) {K:PV→Heap→List Nat→Prop}
  (h:∀ j:Int,(0≤j↔l.any pr=true)→K (iv j) H []):IC (env P) 218 [lvP l,.fn g caps] H K:=by
 refine IC_rd (fun _=>rfl) rfl ?_
 simp [c218]
 refine idxStore_loop hh hg hL l 0 _ rfl (by omega) (by simp) (by simp) (by simp) (by simp) (by repeat (first | exact Gr.refl | refine Gr.grow ?_)) rfl ?_ ?_
 ·intro st' j ha h4 hG hw
  exact Rd.mk (iv j) ⟨[],by simp [h4]⟩ rfl hG.at_ (by simp [hw]) (h j (by simp [ha]))
 ·intro st' ha hG hw
  simp [hw]
  refine Rd.mk (iv (-1)) ⟨[],by simp⟩ rfl ?_ (by simp [hw]) (h (-1) (by simp [ha]))
  intro i hi
  have:=hG.n
  simp only [at_grow]
  rw [if_pos (by omega)]
  exact hG.at_ i hi
theorem conStore_IC {l:List Item} {g:FuncId} {caps:List PV} {pr:Item→Bool} {H:Heap} (hh:inlF g=true) (hg:∀ q∈l,∀ H',Gr H H'→∀ K:PV→Heap→List Nat→Prop,K (bv (pr q)) H' []→IC (env P) g (.agg (itP q)::caps) H' K) (hL:l.length≤most) {K:PV→Heap→List Nat→Prop}
  (h:K (bv (l.any pr)) H []):IC (env P) 183 [lvP l,.fn g caps] H K:=by
 refine IC_rd (fun _=>rfl) rfl ?_
 simp [c183]
 refine VA_inl (g:=218) (caps:=[]) rfl rfl ?_
 simp
 refine idxStore_IC hh (fun q hq H' hG K hk=>hg q hq H' (Gr.trans (Gr.refl.grow) hG |> fun e=>by simpa using e) K hk) hL ?_
 intro j hj
 simp
 refine Rd.mk (bv (l.any pr)) ?_ rfl ?_ (by simp) h
 ·by_cases ha:l.any pr=true
  ·have:=hj.2 ha
   simp [this,ha]
  ·have hn:¬ 0≤j:=fun x=>ha (hj.1 x)
   simp only [Bool.not_eq_true] at ha
   simp [hn,ha]
 ·intro i hi; simp [hi]
section
variable {U:List Bytes} {x h:NS}
noncomputable def lackI (h:NS) (y:Item):Bool:=!y.dead && !y.held && !decide ((getS h.know y.id).Has y.seq) && zoneHas (toSI h.zone) y.x y.y
noncomputable def lacksB (x h:NS):Bool:=x.store.any (lackI h)
theorem lack1_IC (hU:UOK U) (T:TB P) (hh:WN U h) {q:Item} (hs:q.sm) {p1 p2:Nat} {H:Heap} (h1:H.at_ p1 = .box [lv h.know]) (h2:H.at_ p2 = .box (nsP h)) (n1:p1 < H.n) (n2:p2 < H.n) {K:PV→Heap→List Nat→Prop} (hk:K (bv (lackI h q)) H []):IC (env P) 184 [.agg (itP q),.ptr p1 0,.ptr p2 0] H K:=by
 refine IC_rd (fun _=>rfl) rfl ?_
 have k1:=kHas_ans (P:=P) T (id:=q.id) (n:=q.seq) hh.know (by have:=hh.kl; have:=hU.n; unfold most; omega)
 have k2:=hh.zHas (P:=P) hs.1 hs.2
 have e1:¬ p1=H.n:=by omega
 have e2:¬ p2=H.n:=by omega
 have m1:p1 < H.n+1:=by omega
 have m2:p2 < H.n+1:=by omega
 simp only [nsP] at h2
 have fin:∀ st':St,st'.σ 4=bv (lackI h q)→True:=fun _ _=>trivial
 cases hd:q.dead with
 | true =>
   simp [c184,hd,h1,h2,n1,n2,e1,e2,m1,m2]
   refine Rd.mk (bv (lackI h q)) ?_ rfl ?_ ?_ hk
   ·simp [lackI,hd]
   ·intro i hi
    simp [show ¬ i=H.n by omega,hi]
    try omega
   ·simp
 | false =>
   cases hl:q.held with
   | true =>
     simp [c184,hd,hl,h1,h2,n1,n2,e1,e2,m1,m2]
     refine Rd.mk (bv (lackI h q)) ?_ rfl ?_ ?_ hk
     ·simp [lackI,hd,hl]
     ·intro i hi
      simp [show ¬ i=H.n by omega,hi]
      try omega
     ·simp
   | false =>
     by_cases hh2:(getS h.know q.id).Has q.seq
     ·simp only [hh2,decide_true] at k1
      simp [c184,hd,hl,h1,h2,n1,n2,e1,e2,m1,m2,k1]
      refine Rd.mk (bv (lackI h q)) ?_ rfl ?_ ?_ hk
      ·simp [lackI,hd,hl,hh2]
      ·intro i hi
       simp [show ¬ i=H.n by omega,hi]
       try omega
      ·simp
     ·simp only [hh2,decide_false] at k1
      simp [c184,hd,hl,h1,h2,n1,n2,e1,e2,m1,m2,k1,k2]
      refine Rd.mk (bv (lackI h q)) ?_ rfl ?_ ?_ hk
      ·simp [lackI,hd,hl,hh2]
      ·intro i hi
       simp [show ¬ i=H.n by omega,hi]
       try omega
      ·simp
theorem lacks_ans (hU:UOK U) (T:TB P) (hx:WN U x) (hh:WN U h):ans (env P) 137 [.agg (nsP x),.agg (nsP h),lv h.know]=some (bv (lacksB x h)):=by
 refine ans_V rfl rfl ?_
 simp [c137,nsP]
 refine VA_inl (g:=183) (caps:=[]) rfl rfl ?_
 simp
 refine conStore_IC (l:=x.store) (pr:=lackI h) (g:=184) rfl (fun q hq H' hG K hk=>?_) (by have:=hx.sl; unfold most; omega) ?_
 ·have g1:=hG.at_ 1 (by simp)
  have g2:=hG.at_ 2 (by simp)
  have gn:=hG.n
  simp at g1 g2 gn
  exact lack1_IC hU T hh (hx.storeS q hq) g2 g1 (by omega) (by omega) hk
 ·simp [lacksB]
end
end Go.Evl.Zone

namespace Go.Evl.Zone
open Go Go.Evl Go.Evl.Fl
variable {P:Program}
section
variable {U:List Bytes} {x h:NS}
noncomputable def mayS (x h:NS):Int:=if x.how≠0∨h.how≠0 then 5 else if x.id=h.id then 1 else if x.id=[48] then 14 else if lacksB x h=true then 15 else 0
theorem knows_ans (T:TB P) {k:List KRow} (hk:KOK k) (hL:k.length≤most):ans (env P) 136 [lv k,.im [] false]=some (bv true):=by
 have k1:ans (env P) 91 [.im [] false]=some (.im [] false):=kFrom_ans (P:=P) (v:=[]) (by constructor <;> simp [Srt]) (by simp)
 have k2:ans (env P) 182 [.im [] false,lv k]=some (bv true):=kWithin_ans (P:=P) T (a:=[]) (b:=k) (by simp) hk (by simp) hL
 refine ans_V rfl rfl ?_
 simp [c136,k1,k2]
theorem rwithin_ans {k:List KRow} (hk:KOK k) (hL:k.length≤most):ans (env P) 131 [.im [] false,lv k]=some (bv true):=by
 have k1:ans (env P) 118 [.im [] false]=some (.im [] false):=r4From_ans (P:=P) (v:=[]) (by simp)
 have k2:ans (env P) 19 [.im [] false,lv k]=some (bv true):=r4Within_ans (P:=P) (a:=[]) (b:=k) (by simp) hk (by simp) hL
 refine ans_V rfl rfl ?_
 simp [c131,k1,k2]
theorem mayRetire_ans (hU:UOK U) (T:TB P) (hx:WN U x) (hh:WN U h):ans (env P) 67 [.agg (nsP x),.agg (nsP h),lv h.know]=some (iv (mayS x h)):=by
 have hn:=hU.n
 have k1:=knows_ans (P:=P) T hh.know (by have:=hh.kl; unfold most; omega)
 have k2:=knows_ans (P:=P) T hx.know (by have:=hx.kl; unfold most; omega)
 have ka:=hx.all (P:=P) hU T
 have kl:=lacks_ans (P:=P) hU T hx hh
 have q1:=fun t cx cy=>evBin_seql (P:=P) (t:=t) (cx:=cx) (cy:=cy) x.id h.id
 have q2:=fun t cx cy=>evBin_seql (P:=P) (t:=t) (cx:=cx) (cy:=cy) x.id [48]
 have f1:lv x.floor = .im [] false:=by rw [hx.floor]; rfl
 have f2:lv h.floor = .im [] false:=by rw [hh.floor]; rfl
 have i1:=hx.how
 have i2:=hh.how
 unfold mayS
 refine ans_V rfl rfl ?_
 by_cases a1:x.how=0
 ·by_cases a2:h.how=0
  ·rw [if_neg (by simp [a1,a2])]
   by_cases a3:x.id=h.id
   ·rw [if_pos a3]
    simp only [a3,decide_true] at q1
    simp [c67,nsP,a1,a2,q1,a3]
   ·rw [if_neg a3]
    simp only [a3,decide_false] at q1
    by_cases a4:x.id=[48]
    ·rw [if_pos a4]
     simp only [a4,decide_true] at q2
     rw [a4] at q1
     simp [c67,nsP,a1,a2,q1,q2,a4]
    ·rw [if_neg a4]
     simp only [a4,decide_false] at q2
     simp only [nsP,a1,a2,f1,f2] at ka kl
     cases hl:lacksB x h with
     | true =>
       rw [if_pos rfl]
       rw [hl] at kl
       simp [c67,nsP,a1,a2,q1,q2,f1,f2,k1,k2,ka,kl]
     | false =>
       rw [if_neg (by simp)]
       rw [hl] at kl
       simp [c67,nsP,a1,a2,q1,q2,f1,f2,k1,k2,ka,kl]
  ·rw [if_pos (.inr a2)]
   simp [c67,nsP,a1,a2]
 ·rw [if_pos (.inl a1)]
  simp [c67,nsP,a1]
end
end Go.Evl.Zone

namespace Go.Evl.Zone
open Go Go.Evl Go.Evl.Fl
variable {P:Program}
section
variable {U:List Bytes} {x h:NS}
def wantI (K:List KRow) (m:List Item) (y:Item):Bool:=!decide ((getS K y.id).Has y.seq) || match getA Item.key m y.key with
 | some o=>y.held && decide (o.id=y.id∧o.seq=y.seq∧o.stamp=y.stamp)
 | none=>false
def takeI (K:List KRow) (m:List Item) (y:Item):List Item:=if wantI K m y=true then (putI m y).1 else m
def heirL (K:List KRow) (m l:List Item):List Item:=l.foldl (takeI K) m
structure SU (U:List Bytes) (m:List Item):Prop where
 srt:Srt cmpI Item.key m
 kk:∀ q∈m,q.key∈keys32
 u:∀ q∈m,q.id∈U
 sm:∀ q∈m,q.sm
theorem SU.len {m:List Item} (h:SU U m):m.length≤32:=by
 have:=srt_len cmpI_ok h.srt h.kk
 simpa [keys32] using this
theorem SU.take {K:List KRow} {m:List Item} (h:SU U m) {y:Item} (hk:y.key∈keys32) (hu:y.id∈U) (hs:y.sm):SU U (takeI K m y):=by
 unfold takeI
 split
 ·exact ⟨putI_srt h.srt,fun q hq=>(putI_mem h.srt hq).elim (fun e=>by rw [e]; exact hk) (h.kk q),fun q hq=>(putI_mem h.srt hq).elim (fun e=>by rw [e]; exact hu) (h.u q),fun q hq=>(putI_mem h.srt hq).elim (fun e=>by rw [e]; exact hs) (h.sm q)⟩
 ·exact h
theorem SU.heir {K:List KRow} {l:List Item}:∀ {m:List Item},SU U m→SU U l→SU U (heirL K m l):=by
 induction l with
 | nil=>exact fun h _=>h
 | cons y l ih =>
   intro m h hl
   exact ih (h.take (hl.kk y (by simp)) (hl.u y (by simp)) (hl.sm y (by simp))) ⟨(List.pairwise_cons.1 hl.srt).2,fun q hq=>hl.kk q (by simp [hq]),fun q hq=>hl.u q (by simp [hq]),fun q hq=>hl.sm q (by simp [hq])⟩
theorem WN.su (h:WN U x):SU U x.store:=⟨h.store,h.storeK,h.storeU,h.storeS⟩
noncomputable abbrev withSt (s:NS) (m:List Item):NS:={ s with store:=m }
theorem retP_loop (T:TB P) {B0 B2 B3:List PV} {K:List KRow} (hK:KOK K) (hKL:K.length≤most) {l:List Item} (hl:SU U l) {s:NS} {ks:List Fr'} {Q:Ex→St→Prop}:∀ (rest:List Item) (i:Nat) (st:St) (m:List Item),l.drop i=rest→i≤l.length→SU U m→st.σ 2 = .ptr 0 0→st.h.at_ 0 = .box B0→st.σ 4 = .ptr 2 0→st.h.at_ 2 = .box B2→st.σ 5 = .ptr 3 0→st.h.at_ 3 = .box B3→st.σ 9 = .ptr 4 0→st.h.at_ 4 = .box (nsP (withSt s m))→4 < st.h.n→st.σ 7=lv K→st.σ 30=lvP l→st.σ 31=iv l.length→st.σ 32=iv i →
  (∀ st',st'.σ 2 = .ptr 0 0→st'.h.at_ 0 = .box B0→st'.σ 4 = .ptr 2 0→st'.h.at_ 2 = .box B2→st'.σ 5 = .ptr 3 0→st'.h.at_ 3 = .box B3→st'.σ 9 = .ptr 4 0→st'.h.at_ 4 = .box (nsP (withSt s (heirL K m rest)))→4 < st'.h.n→VN (env P) 14 st' ks Q)→V (env P) 14 (.loop L14_0) st (.blk 0::ks) Q
 | [],i,st,m,hr,hi,hm,h2,b0,h4,b2,h5,b3,h9,b4,hn,h7,h30,h31,h32,hend=>by
   obtain ⟨hii,hlt,hd⟩:=drop_nil hr hi
   rw [V_loop]
   have n0:0 < st.h.n:=by omega
   have n2:2 < st.h.n:=by omega
   have n3:3 < st.h.n:=by omega
   have b4:st.h.at_ 4 = .box (nsP (withSt s (heirL K m []))):=b4
   simp [L14_0,h31,h32,hlt]
   refine hend _ (by simp [h2]) ?_ (by simp [h4]) ?_ (by simp [h5]) ?_ (by simp [h9]) ?_ (by simpa using hn)
   ·show (if 0 < st.h.n then st.h.at_ 0 else _)=_; rw [if_pos n0]; exact b0
   ·show (if 2 < st.h.n then st.h.at_ 2 else _)=_; rw [if_pos n2]; exact b2
   ·show (if 3 < st.h.n then st.h.at_ 3 else _)=_; rw [if_pos n3]; exact b3
   ·show (if 4 < st.h.n then st.h.at_ 4 else _)=_; rw [if_pos hn]; exact b4
 | y::rest,i,st,m,hr,hi,hm,h2,b0,h4,b2,h5,b3,h9,b4,hn,h7,h30,h31,h32,hend=>by
   obtain ⟨hq,hlt,hr',hi'⟩:=drop_cons hr
   have hM:most=68719476736:=rfl
   have hyl:=List.mem_of_getElem? hq
   have hll:=hl.len
   have hml:=hm.len
   have n0:0 < st.h.n:=by omega
   have n2:2 < st.h.n:=by omega
   have n3:3 < st.h.n:=by omega
   have e0:¬ 0=st.h.n:=by omega
   have e2:¬ 2=st.h.n:=by omega
   have e3:¬ 3=st.h.n:=by omega
   have e4:¬ 4=st.h.n:=by omega
   have f0:¬ 0=st.h.n+1:=by omega
   have f2:¬ 2=st.h.n+1:=by omega
   have f3:¬ 3=st.h.n+1:=by omega
   have f4:¬ 4=st.h.n+1:=by omega
   have z0:0 < st.h.n+1:=by omega
   have z2:2 < st.h.n+1:=by omega
   have z3:3 < st.h.n+1:=by omega
   have m4:4 < st.h.n+1:=by omega
   have m4':4 < st.h.n+1+1:=by omega
   have wi:IntKind.i64.wrap ((i:Int)+1)=((i+1:Nat):Int):=by rw [wrap64_id (by omega)]; rfl
   have hc:=EnP_at hq
   have k1:=storeGet_ans (P:=P) T (v:=m) (k:=y.key) hm.srt (by omega)
   have k2:=kHas_ans (P:=P) T (k:=K) (id:=y.id) (n:=y.seq) hK hKL
   have k3:=storePut_ans (P:=P) T (v:=m) (x:=y) hm.srt (by omega)
   have hs':=hm.take (K:=K) (hl.kk y hyl) (hl.u y hyl) (hl.sm y hyl)
   have go:∀ st1:St,st1.σ 2 = .ptr 0 0→st1.h.at_ 0 = .box B0→st1.σ 4 = .ptr 2 0→st1.h.at_ 2 = .box B2→st1.σ 5 = .ptr 3 0→st1.h.at_ 3 = .box B3→st1.σ 9 = .ptr 4 0→st1.h.at_ 4 = .box (nsP (withSt s (takeI K m y)))→4 < st1.h.n→st1.σ 7=lv K→st1.σ 30=lvP l→st1.σ 31=iv l.length→st1.σ 32=iv ((i+1:Nat):Int)→V (env P) 14 (.loop L14_0) st1 (.blk 0::ks) Q :=
    fun st1 a1 a2 a3 a4 a5 a6 a7 a8 a9 a10 a11 a12 a13=>retP_loop T hK hKL hl rest (i+1) st1 (takeI K m y) hr' (by omega) hs' a1 a2 a3 a4 a5 a6 a7 a8 a9 a10 a11 a12 a13 hend
   rw [V_loop]
   by_cases c1:(getS K y.id).Has y.seq
   ·simp only [c1,decide_true] at k2
    cases hg:getA Item.key m y.key with
    | none =>
      rw [hg] at k1
      have ht:takeI K m y=m:=by simp [takeI,wantI,c1,hg]
      simp [L14_0,h2,h4,h5,h9,h7,h30,h31,h32,b4,hn,hlt,hc,k1,k2,wi,itP,n0,n2,n3,e0,e2,e3,e4,f0,f2,f3,f4,m4,m4']
      refine go _ (by simp [h2]) (by simp [b0,e0,f0,n0,z0] <;> first | omega | ((repeat' split) <;> first | rfl | omega)) (by simp [h4]) (by simp [b2,e2,f2,n2,z2] <;> first | omega | ((repeat' split) <;> first | rfl | omega)) (by simp [h5]) (by simp [b3,e3,f3,n3,z3] <;> first | omega | ((repeat' split) <;> first | rfl | omega)) (by simp [h9]) (by rw [ht]; simp [b4,e4,f4,hn,m4] <;> first | omega | ((repeat' split) <;> first | rfl | omega)) (by simp <;> omega) (by simp [h7]) (by simp [h30]) (by simp [h31]) (by simp)
    | some o =>
      rw [hg] at k1
      cases hh:y.held with
      | false =>
        have ht:takeI K m y=m:=by simp [takeI,wantI,c1,hg,hh]
        simp only [itP,hh] at hc
        simp [L14_0,h2,h4,h5,h9,h7,h30,h31,h32,b4,hn,hlt,hc,k1,k2,wi,itP,n0,n2,n3,e0,e2,e3,e4,f0,f2,f3,f4,m4,m4',hh]
        refine go _ (by simp [h2]) (by simp [b0,e0,f0,n0,z0] <;> first | omega | ((repeat' split) <;> first | rfl | omega)) (by simp [h4]) (by simp [b2,e2,f2,n2,z2] <;> first | omega | ((repeat' split) <;> first | rfl | omega)) (by simp [h5]) (by simp [b3,e3,f3,n3,z3] <;> first | omega | ((repeat' split) <;> first | rfl | omega)) (by simp [h9]) (by rw [ht]; simp [b4,e4,f4,hn,m4] <;> first | omega | ((repeat' split) <;> first | rfl | omega)) (by simp <;> omega) (by simp [h7]) (by simp [h30]) (by simp [h31]) (by simp)
      | true =>
        simp only [itP,hh] at hc
        by_cases c2:o.id=y.id∧o.seq=y.seq∧o.stamp=y.stamp
        ·have q1:=fun cx cy=>(pver_eql (P:=P) T.toTI (cx:=cx) (cy:=cy) o.id y.id o.seq o.stamp y.seq y.stamp).trans (by rw [decide_eq_true c2]:_=some (bv true))
         have ht:takeI K m y=(putI m y).1:=by unfold takeI; rw [if_pos (by simp [wantI,hg,hh,c2])]
         simp only [itP,hh] at k3
         obtain ⟨pm,hpm⟩:∃ pm,pm=putI m y:=⟨_,rfl⟩
         rw [← hpm] at k3 ht
         simp [L14_0,h2,h4,h5,h9,h7,h30,h31,h32,b4,hn,hlt,hc,k1,k2,wi,itP,n0,n2,n3,e0,e2,e3,e4,f0,f2,f3,f4,m4,m4',hh,q1,k3,chunks]
         refine go _ (by simp [h2]) (by simp [b0,e0,f0,n0,z0] <;> first | omega | ((repeat' split) <;> first | rfl | omega)) (by simp [h4]) (by simp [b2,e2,f2,n2,z2] <;> first | omega | ((repeat' split) <;> first | rfl | omega)) (by simp [h5]) (by simp [b3,e3,f3,n3,z3] <;> first | omega | ((repeat' split) <;> first | rfl | omega)) (by simp [h9]) (by rw [ht]; simp [b4,e4,f4,hn,m4] <;> first | omega | ((repeat' split) <;> first | rfl | omega)) (by simp <;> omega) (by simp [h7]) (by simp [h30]) (by simp [h31]) (by simp)
        ·have q1:=fun cx cy=>(pver_eql (P:=P) T.toTI (cx:=cx) (cy:=cy) o.id y.id o.seq o.stamp y.seq y.stamp).trans (by rw [decide_eq_false c2]:_=some (bv false))
         have ht:takeI K m y=m:=by unfold takeI; rw [if_neg (by simp [wantI,c1,hg,hh]; simpa using c2)]
         simp [L14_0,h2,h4,h5,h9,h7,h30,h31,h32,b4,hn,hlt,hc,k1,k2,wi,itP,n0,n2,n3,e0,e2,e3,e4,f0,f2,f3,f4,m4,m4',hh,q1]
         refine go _ (by simp [h2]) (by simp [b0,e0,f0,n0,z0] <;> first | omega | ((repeat' split) <;> first | rfl | omega)) (by simp [h4]) (by simp [b2,e2,f2,n2,z2] <;> first | omega | ((repeat' split) <;> first | rfl | omega)) (by simp [h5]) (by simp [b3,e3,f3,n3,z3] <;> first | omega | ((repeat' split) <;> first | rfl | omega)) (by simp [h9]) (by rw [ht]; simp [b4,e4,f4,hn,m4] <;> first | omega | ((repeat' split) <;> first | rfl | omega)) (by simp <;> omega) (by simp [h7]) (by simp [h30]) (by simp [h31]) (by simp)
   ·simp only [c1,decide_false] at k2
    have ht:takeI K m y=(putI m y).1:=by unfold takeI; rw [if_pos (by simp [wantI,c1])]
    simp only [itP] at k3
    obtain ⟨pm,hpm⟩:∃ pm,pm=putI m y:=⟨_,rfl⟩
    rw [← hpm] at k3 ht
    cases hg:getA Item.key m y.key with
    | none =>
      rw [hg] at k1
      simp [L14_0,h2,h4,h5,h9,h7,h30,h31,h32,b4,hn,hlt,hc,k1,k2,wi,itP,n0,n2,n3,e0,e2,e3,e4,f0,f2,f3,f4,m4,m4',k3]
      refine go _ (by simp [h2]) (by simp [b0,e0,f0,n0,z0] <;> first | omega | ((repeat' split) <;> first | rfl | omega)) (by simp [h4]) (by simp [b2,e2,f2,n2,z2] <;> first | omega | ((repeat' split) <;> first | rfl | omega)) (by simp [h5]) (by simp [b3,e3,f3,n3,z3] <;> first | omega | ((repeat' split) <;> first | rfl | omega)) (by simp [h9]) (by rw [ht]; simp [b4,e4,f4,hn,m4] <;> first | omega | ((repeat' split) <;> first | rfl | omega)) (by simp <;> omega) (by simp [h7]) (by simp [h30]) (by simp [h31]) (by simp)
    | some o =>
      rw [hg] at k1
      simp [L14_0,h2,h4,h5,h9,h7,h30,h31,h32,b4,hn,hlt,hc,k1,k2,wi,itP,n0,n2,n3,e0,e2,e3,e4,f0,f2,f3,f4,m4,m4',k3]
      refine go _ (by simp [h2]) (by simp [b0,e0,f0,n0,z0] <;> first | omega | ((repeat' split) <;> first | rfl | omega)) (by simp [h4]) (by simp [b2,e2,f2,n2,z2] <;> first | omega | ((repeat' split) <;> first | rfl | omega)) (by simp [h5]) (by simp [b3,e3,f3,n3,z3] <;> first | omega | ((repeat' split) <;> first | rfl | omega)) (by simp [h9]) (by rw [ht]; simp [b4,e4,f4,hn,m4] <;> first | omega | ((repeat' split) <;> first | rfl | omega)) (by simp <;> omega) (by simp [h7]) (by simp [h30]) (by simp [h31]) (by simp)
end
end Go.Evl.Zone

namespace Go.Evl.Zone
open Go Go.Evl Go.Evl.Fl
variable {P:Program}
section
variable {U:List Bytes} {x h:NS}
def heir0 (x h:NS):NS:={ learnS h x.know with store:=heirL h.know h.store x.store,clock:=max h.clock x.clock }
def heir1 (x h:NS):NS:=metaS (heir0 x h) x.members x.certs x.rows
def heir2 (x h:NS):NS:={ heir1 x h with certs:=setV (heir1 x h).certs x.id (lastC x.seq) }
def gone1 (x:NS):NS:={ x with how:=1 }
noncomputable def retireS (x h:NS):NS × NS × Int:=if mayS x h≠0 then (x,h,mayS x h) else (settleS (gone1 x),settleS (heir2 x h),0)
theorem WN.mu (hU:UOK U) (hx:WN U x):MU U x.members x.certs x.rows where
 ml:=by have:=hx.ml; have:=hU.n; omega
 mU:=hx.membersU
 cv:=hx.certs
 cU:=hx.certsU
 rv:=hx.rows.ok
 rl:=by have:=hx.rl; have:=hU.n; omega
 rU:=hx.rowsU
 vU:=hx.vecsU
theorem WN.h0 (hx:WN U x) (hh:WN U h):WN U (heir0 x h):=by
 have w:=hh.learn_ hx.know hx.knowU
 have s:=hh.su.heir (K:=h.know) hx.su
 have:=hx.clock
 have:=hh.clock
 exact { w with
  clock:=⟨by show 0≤max h.clock x.clock; omega,by show max h.clock x.clock≤1048575; omega⟩
  store:=s.srt
  storeK:=s.kk
  storeU:=s.u
  storeS:=s.sm }
theorem WN.h1 (hU:UOK U) (hx:WN U x) (hh:WN U h):WN U (heir1 x h):=(hx.h0 hh).meta_ (hx.mu hU)
theorem WN.h2 (hU:UOK U) (hx:WN U x) (hh:WN U h):WN U (heir2 x h):=(hx.h1 hU hh).cert0 hx.idU x.seq
theorem WN.g1 (hx:WN U x):WN U (gone1 x):={ hx with how:=⟨by show (0:Int)≤1; omega,by show (1:Int)≤2; omega⟩ }
theorem WN.retire (hU:UOK U) (T:TB P) (hx:WN U x) (hh:WN U h):ans (env P) 14 [.agg (nsP x),.agg (nsP h)]=some (.tup [.agg (nsP (retireS x h).1),.agg (nsP (retireS x h).2.1),iv (retireS x h).2.2]):=by
 have hn:=hU.n
 have ka:=hh.all (P:=P) hU T
 have ka2:=hx.all (P:=P) hU T
 have km:=mayRetire_ans (P:=P) hU T hx hh
 have kl:=hh.learnP (P:=P) hU T hx.know hx.knowU
 have kt:=(hx.h0 hh).metaP (P:=P) hU T (hx.mu hU)
 have kc:=certPut_ans (P:=P) (n:=x.seq) T (hx.h1 hU hh).certs (hU.pR hx.idU) (by have:=(hx.h1 hU hh).cl; unfold most; omega)
 have ks1:=hx.g1.settle (P:=P) hU T
 have ks2:=(hx.h2 hU hh).settle (P:=P) hU T
 unfold retireS
 by_cases a1:mayS x h=0
 ·rw [if_neg (by simp [a1])]
  rw [a1] at km
  obtain ⟨L,hL⟩:∃ L,L=learnS h x.know:=⟨_,rfl⟩
  obtain ⟨h1,hh1⟩:∃ h1,h1=heir1 x h:=⟨_,rfl⟩
  obtain ⟨g2,hg2⟩:∃ g2,g2=_root_.Go.Evl.Zone.settleS (gone1 x):=⟨_,rfl⟩
  obtain ⟨r2,hr2⟩:∃ r2,r2=_root_.Go.Evl.Zone.settleS (heir2 x h):=⟨_,rfl⟩
  have e0:heir0 x h={ L with store:=heirL h.know h.store x.store,clock:=max h.clock x.clock }:=by rw [hL]; rfl
  have e2:heir2 x h={ h1 with certs:=setV h1.certs x.id (lastC x.seq) }:=by rw [hh1]; rfl
  have eL:withSt L h.store=L:=by rw [hL]; rfl
  have ec:L.clock=h.clock:=by rw [hL]; rfl
  have e1:metaS (heir0 x h) x.members x.certs x.rows=h1:=hh1.symm
  rw [e1,e0] at kt
  rw [← hh1] at kc
  rw [← hL] at kl
  rw [← hg2] at ks1 ⊢
  rw [e2] at ks2 hr2
  rw [← hr2] at ks2
  rw [e2,← hr2]
  simp only [nsP,gone1] at ka ka2 km kl kt kc ks1 ks2
  refine ans_V rfl rfl ?_
  simp [c14,nsP,ka,ka2,km,kl]
  refine retP_loop T hh.know (by have:=hh.kl; unfold most; omega) hx.su (s:=L) x.store 0 _ h.store rfl (by omega) hh.su (by simp) (by simp; rfl) (by simp) (by simp; rfl) (by simp) (by simp; rfl) (by simp) (by rw [eL]; simp) (by simp) (by simp) (by simp) (by simp) (by simp) fun st' h2 b0 h4 b2 h5 b3 h9 b4 hn=>?_
  have n0:0 < st'.h.n:=by omega
  have n2:2 < st'.h.n:=by omega
  have n3:3 < st'.h.n:=by omega
  simp only [nsP,withSt] at b0 b4
  have mx:∀ (ts:Array TypeId) (t:TypeId),evFun P .max ts t [.int .i64 h.clock,.int .i64 x.clock]=some (iv (max h.clock x.clock)):=fun ts t=>maxI
  simp [h2,b0,h4,b2,h5,b3,h9,b4,hn,n0,n2,n3,ec,mx,kt,kc,ks1,ks2,resV,resP]
 ·rw [if_pos a1]
  simp only [nsP] at ka km
  refine ans_V rfl rfl ?_
  simp [c14,nsP,resV,resP,ka,km,a1]
end
end Go.Evl.Zone

namespace Go.Evl.Zone
open Go Go.Evl Go.Evl.Fl
variable {P:Program}
section
variable {U:List Bytes} {x h:NS}
abbrev Z13:List PV:=[sv [],iv 0,iv 0,iv 0,iv 0,.im [] true,.im [] true,.im [] true,.im [] true,.im [] true,.im [] true,.im [] true,.im [] true]
theorem retR0_loop (hU:UOK U) (hx:WN U x) (hh:WN U h) {ks:List Fr'} {Q:Ex→St→Prop}:∀ (rest:List Item) (i:Nat) (st:St),x.store.drop i=rest→i≤x.store.length→st.σ 2 = .ptr 0 0→st.h.at_ 0 = .box (nsR x)→st.σ 3 = .ptr 1 0→st.h.at_ 1 = .box (nsR h)→st.σ 4 = .ptr 2 0→st.h.at_ 2 = .box Z13→st.σ 5 = .ptr 3 0→st.h.at_ 3 = .box Z13→3 < st.h.n→st.σ 7=lv h.know→st.σ 8=iv i →
  (∀ st',rest.any (lackI h)=true→st'.σ 4 = .ptr 2 0→st'.h.at_ 2 = .box (nsR x)→st'.σ 5 = .ptr 3 0→st'.h.at_ 3 = .box (nsR h)→st'.σ 6=iv 15→3 < st'.h.n→Q .ret st') →
  (∀ st',rest.any (lackI h)=false→st'.σ 2 = .ptr 0 0→st'.h.at_ 0 = .box (nsR x)→st'.σ 3 = .ptr 1 0→st'.h.at_ 1 = .box (nsR h)→st'.σ 4 = .ptr 2 0→st'.h.at_ 2 = .box Z13→st'.σ 5 = .ptr 3 0→st'.h.at_ 3 = .box Z13→3 < st'.h.n→st'.σ 7=lv h.know→VN (env P) 62 st' ks Q)→V (env P) 62 (.loop L62_0) st (.blk 0::ks) Q
 | [],i,st,hr,hi,h2,b0,h3,b1,h4,b2,h5,b3,hn,h7,h8,hret,hend=>by
   obtain ⟨hii,hlt,hd⟩:=drop_nil hr hi
   have n0:0 < st.h.n:=by omega
   have n1:1 < st.h.n:=by omega
   have n2:2 < st.h.n:=by omega
   have ne:¬ st.h.n=0:=by omega
   simp only [nsR] at b0 b1
   rw [V_loop]
   simp [L62_0,h2,b0,n0,h8,hlt]
   exact hend _ rfl (by simp [h2]) (by simp [b0,n0,ne]) (by simp [h3]) (by simp [b1,n1]) (by simp [h4]) (by simp [b2,n2]) (by simp [h5]) (by simp [b3,hn]) (by simpa using hn) (by simp [h7])
 | y::rest,i,st,hr,hi,h2,b0,h3,b1,h4,b2,h5,b3,hn,h7,h8,hret,hend=>by
   obtain ⟨hq,hlt,hr',hi'⟩:=drop_cons hr
   have hM:most=68719476736:=rfl
   have hyl:=List.mem_of_getElem? hq
   have hs:=hx.storeS y hyl
   have hll:=hx.sl
   have n0:0 < st.h.n:=by omega
   have n1:1 < st.h.n:=by omega
   have n2:2 < st.h.n:=by omega
   have ne:¬ st.h.n=0:=by omega
   have e0:¬ 0=st.h.n:=by omega
   have e1:¬ 1=st.h.n:=by omega
   have e2:¬ 2=st.h.n:=by omega
   have e3:¬ 3=st.h.n:=by omega
   have z0:0 < st.h.n+1:=by omega
   have z1:1 < st.h.n+1:=by omega
   have z2:2 < st.h.n+1:=by omega
   have z3:3 < st.h.n+1:=by omega
   have wi:IntKind.i64.wrap ((i:Int)+1)=((i+1:Nat):Int):=by rw [wrap64_id (by omega)]; rfl
   have hc:=EnR_at hq
   have k1:=r4Has_ans (P:=P) (k:=h.know) (id:=y.id) (n:=y.seq) hh.know (by have:=hh.kl; have:=hU.n; unfold most; omega)
   have k2:=hh.rHas (P:=P) (x:=y.x) (y:=y.y)
   have c0:=b0
   have c1:=b1
   simp only [nsR] at b0 b1
   have go:rest.any (lackI h)=(y::rest).any (lackI h)→∀ st1:St,st1.σ 2 = .ptr 0 0→st1.h.at_ 0 = .box (nsR x)→st1.σ 3 = .ptr 1 0→st1.h.at_ 1 = .box (nsR h)→st1.σ 4 = .ptr 2 0→st1.h.at_ 2 = .box Z13→st1.σ 5 = .ptr 3 0→st1.h.at_ 3 = .box Z13→3 < st1.h.n→st1.σ 7=lv h.know→st1.σ 8=iv ((i+1:Nat):Int)→V (env P) 62 (.loop L62_0) st1 (.blk 0::ks) Q :=
    fun e st1 a1 a2 a3 a4 a5 a6 a7 a8 a9 a10 a11=>retR0_loop hU hx hh rest (i+1) st1 hr' (by omega) a1 a2 a3 a4 a5 a6 a7 a8 a9 a10 a11 (fun st' q=>hret st' (e▸q)) (fun st' q=>hend st' (e▸q))
   rw [V_loop]
   cases hd:y.dead with
   | true =>
     simp only [itR,hd] at hc
     have ht:lackI h y=false:=by simp [lackI,hd]
     simp [L62_0,h2,b0,n0,h8,hlt,hc,wi,ne]
     exact go (by simp [ht]) _ (by simp [h2]) (by simp [b0,n0,ne,e0]) (by simp [h3]) (by simp [b1,n1,e1] <;> omega) (by simp [h4]) (by simp [b2,n2,e2] <;> omega) (by simp [h5]) (by simp [b3,hn,e3] <;> omega) (by simp; omega) (by simp [h7]) (by simp)
   | false =>
     cases hl:y.held with
     | true =>
       simp only [itR,hd,hl] at hc
       have ht:lackI h y=false:=by simp [lackI,hl]
       simp [L62_0,h2,b0,n0,h8,hlt,hc,wi,ne]
       exact go (by simp [ht]) _ (by simp [h2]) (by simp [b0,n0,ne,e0]) (by simp [h3]) (by simp [b1,n1,e1] <;> omega) (by simp [h4]) (by simp [b2,n2,e2] <;> omega) (by simp [h5]) (by simp [b3,hn,e3] <;> omega) (by simp; omega) (by simp [h7]) (by simp)
     | false =>
       simp only [itR,hd,hl] at hc
       by_cases c3:(getS h.know y.id).Has y.seq
       ·simp only [c3,decide_true] at k1
        have ht:lackI h y=false:=by simp [lackI,c3]
        simp [L62_0,h2,b0,n0,h8,hlt,hc,wi,ne,h7,k1]
        exact go (by simp [ht]) _ (by simp [h2]) (by simp [b0,n0,ne,e0]) (by simp [h3]) (by simp [b1,n1,e1] <;> omega) (by simp [h4]) (by simp [b2,n2,e2] <;> omega) (by simp [h5]) (by simp [b3,hn,e3] <;> omega) (by simp; omega) (by simp [h7]) (by simp)
       ·simp only [c3,decide_false] at k1
        cases hz:zoneHas (toSI h.zone) y.x y.y with
        | false =>
          rw [hz] at k2
          have ht:lackI h y=false:=by simp [lackI,hz]
          simp [L62_0,h2,h3,b0,b1,n0,n1,e1,h8,hlt,hc,wi,ne,h7,k1,k2]
          exact go (by simp [ht]) _ (by simp [h2]) (by simp [b0,n0,ne,e0]) (by simp [h3]) (by simp [b1,n1,e1] <;> omega) (by simp [h4]) (by simp [b2,n2,e2] <;> omega) (by simp [h5]) (by simp [b3,hn,e3] <;> omega) (by simp; omega) (by simp [h7]) (by simp)
        | true =>
          rw [hz] at k2
          have ht:lackI h y=true:=by simp [lackI,hz,c3,hd,hl]
          simp [L62_0,h2,h3,h4,h5,b0,b1,b2,b3,n0,n1,n2,hn,e0,e1,e2,e3,z1,z2,z3,z0,h8,hlt,hc,wi,ne,h7,k1,k2]
          exact hret _ (by simp [ht]) (by simp [h4]) (by simp <;> omega) (by simp [h5]) (by simp <;> omega) (by simp) (by simp <;> omega)
end
end Go.Evl.Zone

namespace Go.Evl.Zone
open Go Go.Evl Go.Evl.Fl
variable {P:Program}
section
variable {U:List Bytes} {x h:NS}
theorem retR1_loop (hU:UOK U) (T:TB P) {K:List KRow} (hK:KOK K) (hKL:K.length≤most) (hx:WN U x) {s:NS} {ks:List Fr'} {Q:Ex→St→Prop}:∀ (rest:List Item) (i:Nat) (st:St) (m:List Item),x.store.drop i=rest→i≤x.store.length→SU U m→st.σ 2 = .ptr 0 0→st.h.at_ 0 = .box (nsR x)→st.σ 3 = .ptr 1 0→st.h.at_ 1 = .box (nsR (withSt s m))→st.σ 4 = .ptr 2 0→st.h.at_ 2 = .box Z13→st.σ 5 = .ptr 3 0→st.h.at_ 3 = .box Z13→3 < st.h.n→st.σ 7=lv K→st.σ 10=iv i →
  (∀ st',st'.σ 2 = .ptr 0 0→st'.h.at_ 0 = .box (nsR x)→st'.σ 3 = .ptr 1 0→st'.h.at_ 1 = .box (nsR (withSt s (heirL K m rest)))→st'.σ 4 = .ptr 2 0→st'.h.at_ 2 = .box Z13→st'.σ 5 = .ptr 3 0→st'.h.at_ 3 = .box Z13→3 < st'.h.n→VN (env P) 62 st' ks Q)→V (env P) 62 (.loop L62_1) st (.blk 2::ks) Q
 | [],i,st,m,hr,hi,hm,h2,b0,h3,b1,h4,b2,h5,b3,hn,h7,h10,hend=>by
   obtain ⟨hii,hlt,hd⟩:=drop_nil hr hi
   have n0:0 < st.h.n:=by omega
   have n1:1 < st.h.n:=by omega
   have n2:2 < st.h.n:=by omega
   have ne:¬ st.h.n=0:=by omega
   have c1:st.h.at_ 1 = .box (nsR (withSt s (heirL K m []))):=b1
   simp only [nsR] at b0
   rw [V_loop]
   simp [L62_1,h2,b0,n0,h10,hlt]
   exact hend _ (by simp [h2]) (by simp [b0,n0,ne]) (by simp [h3]) (by simp [c1,n1]) (by simp [h4]) (by simp [b2,n2]) (by simp [h5]) (by simp [b3,hn]) (by simpa using hn)
 | y::rest,i,st,m,hr,hi,hm,h2,b0,h3,b1,h4,b2,h5,b3,hn,h7,h10,hend=>by
   obtain ⟨hq,hlt,hr',hi'⟩:=drop_cons hr
   have hM:most=68719476736:=rfl
   have hyl:=List.mem_of_getElem? hq
   have hs:=hx.storeS y hyl
   have hll:=hx.sl
   have hml:=hm.len
   have n0:0 < st.h.n:=by omega
   have n1:1 < st.h.n:=by omega
   have n2:2 < st.h.n:=by omega
   have ne:¬ st.h.n=0:=by omega
   have e0:¬ 0=st.h.n:=by omega
   have e1:¬ 1=st.h.n:=by omega
   have e2:¬ 2=st.h.n:=by omega
   have e3:¬ 3=st.h.n:=by omega
   have f0:¬ 0=st.h.n+1:=by omega
   have f1:¬ 1=st.h.n+1:=by omega
   have f2:¬ 2=st.h.n+1:=by omega
   have f3:¬ 3=st.h.n+1:=by omega
   have z0:0 < st.h.n+1:=by omega
   have z1:1 < st.h.n+1:=by omega
   have z2:2 < st.h.n+1:=by omega
   have z3:3 < st.h.n+1:=by omega
   have y1:1 < st.h.n+2:=by omega
   have y1':1 < st.h.n+1+1:=by omega
   have wi:IntKind.i64.wrap ((i:Int)+1)=((i+1:Nat):Int):=by rw [wrap64_id (by omega)]; rfl
   have hc:=EnR_at hq
   have k1:=r8Get_ans (P:=P) (v:=m) (k:=y.key) (by omega)
   have k2:=r4Has_ans (P:=P) (k:=K) (id:=y.id) (n:=y.seq) hK hKL
   have k3:=r8Put_ans (P:=P) T (v:=m) (x:=y) hm.srt (fun q hq=>hU.b (hm.u q hq)) (hU.b (hx.storeU y hyl)) (by omega)
   have hs':=hm.take (K:=K) (hx.storeK y hyl) (hx.storeU y hyl) hs
   simp only [nsR,withSt] at b0 b1
   have go:∀ st1:St,st1.σ 2 = .ptr 0 0→st1.h.at_ 0 = .box (nsR x)→st1.σ 3 = .ptr 1 0→st1.h.at_ 1 = .box (nsR (withSt s (takeI K m y)))→st1.σ 4 = .ptr 2 0→st1.h.at_ 2 = .box Z13→st1.σ 5 = .ptr 3 0→st1.h.at_ 3 = .box Z13→3 < st1.h.n→st1.σ 7=lv K→st1.σ 10=iv ((i+1:Nat):Int)→V (env P) 62 (.loop L62_1) st1 (.blk 2::ks) Q :=
    fun st1 a1 a2 a3 a4 a5 a6 a7 a8 a9 a10 a11=>retR1_loop hU T hK hKL hx rest (i+1) st1 (takeI K m y) hr' (by omega) hs' a1 a2 a3 a4 a5 a6 a7 a8 a9 a10 a11 hend
   rw [V_loop]
   by_cases c1:(getS K y.id).Has y.seq
   ·simp only [c1,decide_true] at k2
    cases hg:getA Item.key m y.key with
    | none =>
      rw [hg] at k1
      have ht:takeI K m y=m:=by simp [takeI,wantI,c1,hg]
      simp [L62_1,h2,h3,h4,h5,h7,h10,b0,b1,hn,hlt,hc,k1,k2,wi,itR,ne,n0,n1,n2,e0,e1,e2,e3,f0,f1,f2,f3,z0,z1,z2,z3,y1,y1']
      refine go _ (by simp [h2]) (by simp [b0,e0,f0,n0,z0,ne] <;> first | omega | ((repeat' split) <;> first | rfl | omega)) (by simp [h3]) (by rw [ht]; simp [b1,e1,f1,n1,z1] <;> first | omega | ((repeat' split) <;> first | rfl | omega)) (by simp [h4]) (by simp [b2,e2,f2,n2,z2] <;> first | omega | ((repeat' split) <;> first | rfl | omega)) (by simp [h5]) (by simp [b3,e3,f3,hn,z3] <;> first | omega | ((repeat' split) <;> first | rfl | omega)) (by simp <;> omega) (by simp [h7]) (by simp)
    | some o =>
      rw [hg] at k1
      cases hh:y.held with
      | false =>
        have ht:takeI K m y=m:=by simp [takeI,wantI,c1,hg,hh]
        simp only [itR,hh] at hc
        simp [L62_1,h2,h3,h4,h5,h7,h10,b0,b1,hn,hlt,hc,k1,k2,wi,itR,ne,n0,n1,n2,e0,e1,e2,e3,f0,f1,f2,f3,z0,z1,z2,z3,y1,y1',hh]
        refine go _ (by simp [h2]) (by simp [b0,e0,f0,n0,z0,ne] <;> first | omega | ((repeat' split) <;> first | rfl | omega)) (by simp [h3]) (by rw [ht]; simp [b1,e1,f1,n1,z1] <;> first | omega | ((repeat' split) <;> first | rfl | omega)) (by simp [h4]) (by simp [b2,e2,f2,n2,z2] <;> first | omega | ((repeat' split) <;> first | rfl | omega)) (by simp [h5]) (by simp [b3,e3,f3,hn,z3] <;> first | omega | ((repeat' split) <;> first | rfl | omega)) (by simp <;> omega) (by simp [h7]) (by simp)
      | true =>
        simp only [itR,hh] at hc
        by_cases c2:o.id=y.id∧o.seq=y.seq∧o.stamp=y.stamp
        ·have q1:=fun cx cy=>(rver_eql (P:=P) T.toTI (cx:=cx) (cy:=cy) o.id y.id o.seq o.stamp y.seq y.stamp).trans (by rw [decide_eq_true c2]:_=some (bv true))
         have ht:takeI K m y=(putI m y).1:=by unfold takeI; rw [if_pos (by simp [wantI,hg,hh,c2])]
         simp only [itR,hh] at k3
         obtain ⟨pm,hpm⟩:∃ pm,pm=putI m y:=⟨_,rfl⟩
         rw [← hpm] at k3 ht
         simp [L62_1,h2,h3,h4,h5,h7,h10,b0,b1,hn,hlt,hc,k1,k2,wi,itR,ne,n0,n1,n2,e0,e1,e2,e3,f0,f1,f2,f3,z0,z1,z2,z3,y1,y1',hh,q1,k3,chunks]
         refine go _ (by simp [h2]) (by simp [b0,e0,f0,n0,z0,ne] <;> first | omega | ((repeat' split) <;> first | rfl | omega)) (by simp [h3]) (by rw [ht]; simp [b1,e1,f1,n1,z1] <;> first | omega | ((repeat' split) <;> first | rfl | omega)) (by simp [h4]) (by simp [b2,e2,f2,n2,z2] <;> first | omega | ((repeat' split) <;> first | rfl | omega)) (by simp [h5]) (by simp [b3,e3,f3,hn,z3] <;> first | omega | ((repeat' split) <;> first | rfl | omega)) (by simp <;> omega) (by simp [h7]) (by simp)
        ·have q1:=fun cx cy=>(rver_eql (P:=P) T.toTI (cx:=cx) (cy:=cy) o.id y.id o.seq o.stamp y.seq y.stamp).trans (by rw [decide_eq_false c2]:_=some (bv false))
         have ht:takeI K m y=m:=by unfold takeI; rw [if_neg (by simp [wantI,c1,hg,hh]; simpa using c2)]
         simp [L62_1,h2,h3,h4,h5,h7,h10,b0,b1,hn,hlt,hc,k1,k2,wi,itR,ne,n0,n1,n2,e0,e1,e2,e3,f0,f1,f2,f3,z0,z1,z2,z3,y1,y1',hh,q1]
         refine go _ (by simp [h2]) (by simp [b0,e0,f0,n0,z0,ne] <;> first | omega | ((repeat' split) <;> first | rfl | omega)) (by simp [h3]) (by rw [ht]; simp [b1,e1,f1,n1,z1] <;> first | omega | ((repeat' split) <;> first | rfl | omega)) (by simp [h4]) (by simp [b2,e2,f2,n2,z2] <;> first | omega | ((repeat' split) <;> first | rfl | omega)) (by simp [h5]) (by simp [b3,e3,f3,hn,z3] <;> first | omega | ((repeat' split) <;> first | rfl | omega)) (by simp <;> omega) (by simp [h7]) (by simp)
   ·simp only [c1,decide_false] at k2
    have ht:takeI K m y=(putI m y).1:=by unfold takeI; rw [if_pos (by simp [wantI,c1])]
    simp only [itR] at k3
    obtain ⟨pm,hpm⟩:∃ pm,pm=putI m y:=⟨_,rfl⟩
    rw [← hpm] at k3 ht
    cases hg:getA Item.key m y.key with
    | none =>
      rw [hg] at k1
      simp [L62_1,h2,h3,h4,h5,h7,h10,b0,b1,hn,hlt,hc,k1,k2,wi,itR,ne,n0,n1,n2,e0,e1,e2,e3,f0,f1,f2,f3,z0,z1,z2,z3,y1,y1',k3]
      refine go _ (by simp [h2]) (by simp [b0,e0,f0,n0,z0,ne] <;> first | omega | ((repeat' split) <;> first | rfl | omega)) (by simp [h3]) (by rw [ht]; simp [b1,e1,f1,n1,z1] <;> first | omega | ((repeat' split) <;> first | rfl | omega)) (by simp [h4]) (by simp [b2,e2,f2,n2,z2] <;> first | omega | ((repeat' split) <;> first | rfl | omega)) (by simp [h5]) (by simp [b3,e3,f3,hn,z3] <;> first | omega | ((repeat' split) <;> first | rfl | omega)) (by simp <;> omega) (by simp [h7]) (by simp)
    | some o =>
      rw [hg] at k1
      simp [L62_1,h2,h3,h4,h5,h7,h10,b0,b1,hn,hlt,hc,k1,k2,wi,itR,ne,n0,n1,n2,e0,e1,e2,e3,f0,f1,f2,f3,z0,z1,z2,z3,y1,y1',k3]
      refine go _ (by simp [h2]) (by simp [b0,e0,f0,n0,z0,ne] <;> first | omega | ((repeat' split) <;> first | rfl | omega)) (by simp [h3]) (by rw [ht]; simp [b1,e1,f1,n1,z1] <;> first | omega | ((repeat' split) <;> first | rfl | omega)) (by simp [h4]) (by simp [b2,e2,f2,n2,z2] <;> first | omega | ((repeat' split) <;> first | rfl | omega)) (by simp [h5]) (by simp [b3,e3,f3,hn,z3] <;> first | omega | ((repeat' split) <;> first | rfl | omega)) (by simp <;> omega) (by simp [h7]) (by simp)
end
end Go.Evl.Zone

namespace Go.Evl.Zone
open Go Go.Evl Go.Evl.Fl
variable {P:Program}
section
variable {U:List Bytes} {x h:NS}
theorem WN.st (hx:WN U x) (hh:WN U h):WN U (withSt h (heirL h.know h.store x.store)):=by
 have s:=hh.su.heir (K:=h.know) hx.su
 exact { hh with
  store:=s.srt
  storeK:=s.kk
  storeU:=s.u
  storeS:=s.sm }
theorem WN.rretire (hU:UOK U) (T:TB P) (hx:WN U x) (hh:WN U h):ans (env P) 62 [.agg (nsR x),.agg (nsR h)]=some (.tup [.agg (nsR (retireS x h).1),.agg (nsR (retireS x h).2.1),iv (retireS x h).2.2]):=by
 have hn:=hU.n
 have k1:=rwithin_ans (P:=P) hh.know (by have:=hh.kl; unfold most; omega)
 have k2:=rwithin_ans (P:=P) hx.know (by have:=hx.kl; unfold most; omega)
 have ka:=hh.rall (P:=P) hU
 have ka2:=hx.rall (P:=P) hU
 have kl:=(hx.st hh).learnR (P:=P) hU hx.know hx.knowU
 have kt:=(hx.h0 hh).rmeta (P:=P) hU (hx.mu hU)
 have kc:=r9Put_ans (P:=P) (n:=x.seq) (hx.h1 hU hh).certs (fun q hq=>hU.b ((hx.h1 hU hh).certsU q hq)) (hU.b hx.idU) (hU.rR hx.idU) (by have:=(hx.h1 hU hh).cl; unfold most; omega)
 have ks1:=hx.g1.rsettle (P:=P) hU
 have ks2:=(hx.h2 hU hh).rsettle (P:=P) hU
 have q1:=fun t cx cy=>evBin_seql (P:=P) (t:=t) (cx:=cx) (cy:=cy) x.id h.id
 have q2:=fun t cx cy=>evBin_seql (P:=P) (t:=t) (cx:=cx) (cy:=cy) x.id [48]
 have f1:lv x.floor = .im [] false:=by rw [hx.floor]; rfl
 have f2:lv h.floor = .im [] false:=by rw [hh.floor]; rfl
 unfold retireS mayS
 by_cases a1:x.how=0
 ·by_cases a2:h.how=0
  ·rw [if_neg (c:=x.how≠0∨h.how≠0) (by simp [a1,a2])]
   by_cases a3:x.id=h.id
   ·rw [if_pos a3,if_pos (by decide)]
    simp only [a3,decide_true] at q1
    refine ans_V rfl rfl ?_
    simp [c62,nsR,resV,resP,a1,a2,q1,a3]
   ·rw [if_neg a3]
    simp only [a3,decide_false] at q1
    by_cases a4:x.id=[48]
    ·rw [if_pos a4,if_pos (by decide)]
     simp only [a4,decide_true] at q2
     rw [a4] at q1
     refine ans_V rfl rfl ?_
     simp [c62,nsR,resV,resP,a1,a2,q1,q2,a4]
    ·rw [if_neg a4]
     simp only [a4,decide_false] at q2
     refine ans_V rfl rfl ?_
     simp only [nsR,a1,a2,f1,f2] at ka ka2
     simp [c62,nsR,a1,a2,q1,q2,f1,f2,k1,k2,ka,ka2]
     refine retR0_loop hU hx hh x.store 0 _ rfl (by omega) (by simp) (by simp [a1,f1]) (by simp) (by simp [a2,f2]) (by simp) (by simp) (by simp) (by simp) (by simp) (by simp) (by simp) ?_ ?_
     ·intro st' hl h4 b2 h5 b3 h6 hn
      have n2:2 < st'.h.n:=by omega
      have hl:lacksB x h=true:=hl
      simp [h4,b2,h5,b3,h6,hn,n2,hl,resV,resP,a1,a2,f1,f2]
     ·intro st' hl h2 b0 h3 b1 h4 b2 h5 b3 hn h7
      have hl:lacksB x h=false:=hl
      rw [hl]
      simp only [Bool.false_eq_true,if_false,ne_eq,not_true_eq_false]
      simp
      refine retR1_loop hU T hh.know (by have:=hh.kl; unfold most; omega) hx (s:=h) x.store 0 _ h.store rfl (by omega) hh.su (by simp [h2]) (by simp [b0]; omega) (by simp [h3]) (by simp [b1]; omega) (by simp [h4]) (by simp [b2]; omega) (by simp [h5]) (by simp [b3]; omega) (by simp; omega) (by simp [h7]) (by simp) fun st' h2 b0 h3 b1 h4 b2 h5 b3 hn=>?_
      have n0:0 < st'.h.n:=by omega
      have n1:1 < st'.h.n:=by omega
      have n2:2 < st'.h.n:=by omega
      have mx:∀ (ts:Array TypeId) (t:TypeId),evFun P .max ts t [.int .i64 h.clock,.int .i64 x.clock]=some (iv (max h.clock x.clock)):=fun ts t=>maxI
      obtain ⟨L,hL⟩:∃ L,L=learnS (withSt h (heirL h.know h.store x.store)) x.know:=⟨_,rfl⟩
      obtain ⟨h1,hh1⟩:∃ h1,h1=heir1 x h:=⟨_,rfl⟩
      obtain ⟨g2,hg2⟩:∃ g2,g2=_root_.Go.Evl.Zone.settleS (gone1 x):=⟨_,rfl⟩
      obtain ⟨r2,hr2⟩:∃ r2,r2=_root_.Go.Evl.Zone.settleS (heir2 x h):=⟨_,rfl⟩
      have e0:heir0 x h={ L with clock:=max h.clock x.clock }:=by rw [hL]; rfl
      have e2:heir2 x h={ h1 with certs:=setV h1.certs x.id (lastC x.seq) }:=by rw [hh1]; rfl
      have ec:L.clock=h.clock:=by rw [hL]; rfl
      have e1:metaS (heir0 x h) x.members x.certs x.rows=h1:=hh1.symm
      rw [e1,e0] at kt
      rw [← hh1] at kc
      rw [← hL] at kl
      rw [← hg2] at ks1 ⊢
      rw [e2] at ks2 hr2
      rw [← hr2] at ks2
      rw [e2,← hr2]
      simp only [nsR,withSt,gone1,a1,a2,f1,f2] at ka2 kl kt kc ks1 ks2 b0 b1
      simp [h2,b0,h3,b1,h4,b2,h5,b3,hn,n0,n1,n2,ec,mx,ka2,kl,kt,kc,ks1,ks2,resV,resP]
  ·rw [if_pos (c:=x.how≠0∨h.how≠0) (.inr a2),if_pos (by decide)]
   refine ans_V rfl rfl ?_
   simp [c62,nsR,resV,resP,a1,a2]
 ·rw [if_pos (c:=x.how≠0∨h.how≠0) (.inl a1),if_pos (by decide)]
  refine ans_V rfl rfl ?_
  simp [c62,nsR,resV,resP,a1]
end
end Go.Evl.Zone

namespace Go.Evl.Zone
open Go Go.Evl Go.Evl.Fl
section
variable {U:List Bytes} {s x h:NS}
theorem WN.evW (h:WN U s) {q:Item} (hk:q.key∈keys32) (hs:(mine s q).sm):WN U (evS s q).1:=by
 unfold evS
 by_cases hf:fullS s=true
 ·rw [if_pos hf]; exact h
 ·rw [if_neg hf]
  simp only [fullS,Bool.or_eq_true,decide_eq_true_eq] at hf
  exact (h.ev0 (by omega) (by omega) hk hs).settleS
theorem WN.writeW (h:WN U s) {k x y:Int} {t:Bytes} (hx:smI x) (hy:smI y):WN U (writeS s k x y t).1:=by
 unfold writeS
 by_cases c1:s.how≠0
 ·rw [if_pos c1]; exact h
 ·rw [if_neg c1]
  by_cases c2:k < 0∨31 < k
  ·rw [if_pos c2]; exact h
  ·rw [if_neg c2]
   split
   ·exact h
   ·split
    ·exact h
    ·split
     ·exact h
     ·exact h.evW (key32 c2) ⟨hx,hy⟩
theorem WN.deleteW (h:WN U s) {k:Int}:WN U (deleteS s k).1:=by
 unfold deleteS
 cases ht:thereS s k with
 | error e=>exact h
 | ok x =>
   obtain ⟨a1,a2,a3,a4⟩:=there_ok ht
   exact h.evW (key32 a2) ⟨sm0,sm0⟩
theorem WN.setZoneW (h:WN U s) {Z:List RS} (hs:∀ q∈Z,q.sm):WN U (setZoneS s Z).1:=by
 unfold setZoneS
 split
 ·exact h
 ·split
  ·exact h
  ·by_cases c:zoneRight (toSI Z)=false
   ·rw [if_pos c]; exact h
   ·rw [if_neg c]
    exact (h.zone0 hs (by simpa using c)).settleS
theorem WN.expelW (h:WN U s) {a:Bytes} (ha:a∈U):WN U (expelS s a).1:=by
 unfold expelS
 split
 ·exact h
 ·split
  ·exact h
  ·split
   ·exact h
   ·split
    ·exact h
    ·split
     ·exact h
     ·exact (h.cert0 ha _).settleS
theorem WN.childW (hU:UOK U) (h:WN U s) (hk:s.how=0→mayKid s=true→kidS s∈U):WN U (childS s).1∧((childS s).2.2=0→WN U (childS s).2.1):=by
 unfold childS
 by_cases c1:s.how≠0
 ·rw [if_pos c1]; exact ⟨h,fun e=>absurd e (by simp)⟩
 ·rw [if_neg c1]
  by_cases c2:mayKid s=false
  ·rw [if_pos c2]; exact ⟨h,fun e=>absurd e (by simp)⟩
  ·rw [if_neg c2]
   have hm:mayKid s=true:=by simpa using c2
   have hku:=hk (by simpa using c1) hm
   exact ⟨(h.par0 hU hm hku).settleS,fun _=>(h.kid0 hU hm hku).settleS⟩
theorem WN.retireW (hU:UOK U) (hx:WN U x) (hh:WN U h):WN U (retireS x h).1∧WN U (retireS x h).2.1:=by
 unfold retireS
 split
 ·exact ⟨hx,hh⟩
 ·exact ⟨hx.g1.settleS,(hx.h2 hU hh).settleS⟩
theorem uok_add {a:Bytes} (hU:UOK U) (ha:idR a=true) (hn:U.length < 1000):UOK (a::U) where
 n:=by simp; omega
 r:=fun b hb=>by
  rcases List.mem_cons.1 hb with rfl | hb
  ·exact ha
  ·exact hU.r b hb
end
end Go.Evl.Zone

namespace Go.Evl.Zone
open Go Go.Evl Go.Evl.Fl
section
variable {U:List Bytes} {s x h:NS}
theorem few_xy {o:NOp} (h:fewO o=true):smI o.x∧smI o.y∧∀ q∈o.zone,q.sm:=by
 simp only [fewO,fewO1,Bool.and_eq_true,decide_eq_true_eq,List.all_eq_true] at h
 obtain ⟨⟨⟨⟨⟨⟨_,_⟩,a1⟩,a2⟩,a3⟩,a4⟩,a5⟩:=h
 refine ⟨⟨a2,a1⟩,⟨a4,a3⟩,fun q hq=>?_⟩
 have:=a5 q hq
 simp only [zFew,Bool.and_eq_true,decide_eq_true_eq] at this
 obtain ⟨⟨⟨⟨⟨b1,b2⟩,b3⟩,b4⟩,b5⟩,b6⟩:=this
 exact ⟨⟨b2,b1⟩,⟨b4,b3⟩,⟨b6,b5⟩⟩
def idxN (a:Int) (n:Nat):Nat:=(IntKind.u64.wrap a % (n:Int)).toNat
theorem idxN_lt {a:Int} {n:Nat} (h:0 < n):idxN a n < n:=by
 unfold idxN
 have h1:=Int.emod_nonneg (IntKind.u64.wrap a) (show (n:Int)≠0 by omega)
 have h2:=Int.emod_lt_of_pos (IntKind.u64.wrap a) (show (0:Int) < n by omega)
 omega
def atN (l:List NS) (i:Nat):NS:=l[i]?.getD zeroN
theorem atN_mem {l:List NS} {i:Nat} (h:i < l.length):atN l i∈l:=by
 unfold atN
 rw [List.getElem?_eq_getElem h]
 exact List.getElem_mem h
noncomputable def doS (l:List NS) (o:NOp):List NS :=
 let i:=idxN o.who l.length
 let j:=idxN o.other l.length
 let s:=atN l i
 let t:=atN l j
 match idxN o.kind 8 with
 | 3=>l.set i (deleteS s o.key).1
 | 4=>l.set i (setZoneS s o.zone).1
 | 5=>if l.length < 8 then (if (childS s).2.2=0 then l.set i (childS s).1++[(childS s).2.1] else l.set i (childS s).1) else l
 | 6=>if i≠j then (l.set i (retireS s t).1).set j (retireS s t).2.1 else l
 | 7=>l.set i (expelS s t.id).1
 | _=>l.set i (writeS s o.key o.x o.y o.text).1
structure LI (U:List Bytes) (l:List NS):Prop where
 pos:0 < l.length
 le:l.length≤8
 wn:∀ s∈l,WN U s
theorem LI.mono {U':List Bytes} {l:List NS} (h:LI U l) (hs:∀ a∈U,a∈U'):LI U' l:=⟨h.pos,h.le,fun s hm=>(h.wn s hm).mono hs⟩
theorem LI.set {l:List NS} (h:LI U l) {i:Nat} (hs:WN U s):LI U (l.set i s) :=
 ⟨by simpa using h.pos,by simpa using h.le,fun t ht=>(List.mem_or_eq_of_mem_set ht).elim (h.wn t) (fun e=>e▸hs)⟩
def doU (U:List Bytes) (l:List NS) (o:NOp):List Bytes :=
 let s:=atN l (idxN o.who l.length)
 if s.how=0∧mayKid s=true then kidS s::U else U
theorem LI.doU (hU:UOK U) {l:List NS} (h:LI U l) {o:NOp} (hn:U.length < 1000):UOK (doU U l o)∧(doU U l o).length≤U.length+1∧(∀ a∈U,a∈doU U l o)∧((atN l (idxN o.who l.length)).how=0→mayKid (atN l (idxN o.who l.length))=true→kidS (atN l (idxN o.who l.length))∈doU U l o):=by
 have hw:=h.wn _ (atN_mem (idxN_lt (a:=o.who) h.pos))
 unfold Zone.doU
 by_cases c:(atN l (idxN o.who l.length)).how=0∧mayKid (atN l (idxN o.who l.length))=true
 ·simp only [if_pos c]
  refine ⟨uok_add hU ?_ hn,by simp,fun a ha=>by simp [ha],fun _ _=>by simp⟩
  have hm:=c.2
  simp only [mayKid,Bool.and_eq_true,decide_eq_true_eq] at hm
  have:=hw.kids
  exact idR_kid (hU.r _ hw.idU) hm.2 (by omega) (by omega)
 ·simp only [if_neg c]
  exact ⟨hU,by omega,fun a ha=>ha,fun h1 h2=>absurd ⟨h1,h2⟩ c⟩
theorem LI.doS (hU:UOK U) {l:List NS} (h:LI U l) {o:NOp} (ho:fewO o=true) (hn:U.length < 1000):LI (Zone.doU U l o) (Zone.doS l o):=by
 obtain ⟨hU2,_,hsub,hk⟩:=h.doU hU (o:=o) hn
 have h2:=h.mono hsub
 have hs:=h2.wn _ (atN_mem (idxN_lt (a:=o.who) h.pos))
 have ht:=h2.wn _ (atN_mem (idxN_lt (a:=o.other) h.pos))
 obtain ⟨f1,f2,f3⟩:=few_xy ho
 unfold Zone.doS
 simp only
 split
 ·exact h2.set hs.deleteW
 ·exact h2.set (hs.setZoneW f3)
 ·obtain ⟨c1,c2⟩:=hs.childW hU2 hk
  split
  ·rename_i hl
   split
   ·rename_i h0
    have h3:=h2.set (i:=idxN o.who l.length) c1
    refine ⟨by simp,by simp; omega,fun t hm=>?_⟩
    rcases List.mem_append.1 hm with hm | hm
    ·exact h3.wn t hm
    ·rw [List.mem_singleton.1 hm]; exact c2 h0
   ·exact h2.set c1
  ·exact h2
 ·split
  ·obtain ⟨r1,r2⟩:=hs.retireW hU2 ht
   exact (h2.set r1).set r2
  ·exact h2
 ·exact h2.set (hs.expelW ht.idU)
 ·exact h2.set (hs.writeW f1 f2)
end
end Go.Evl.Zone

namespace Go.Evl.Zone
open Go Go.Evl Go.Evl.Fl
variable {P:Program}
section
variable {U:List Bytes} {s x h:NS}
theorem WN.nok (hU:UOK U) (h:WN U s):NOK s where
 know:=by have:=h.kl; have:=hU.n; unfold most; omega
 ext:=fun a ha=>by
  have:a.extra.length≤1048576:=(h.know.ok a ha).len
  unfold most; omega
 gone:=by rw [h.gone]; simp
 floor:=by rw [h.floor]; simp
 store:=by have:=h.sl; unfold most; omega
 ism:=h.storeS
 zone:=by have:=h.zone; unfold most; omega
 zin:=h.zoneB
 members:=by have:=h.ml; have:=hU.n; unfold most; omega
 certs:=by have:=h.cl; have:=hU.n; unfold most; omega
 rows:=by have:=h.rl; have:=hU.n; unfold most; omega
 rvec:=fun a ha=>by have:=h.vl a ha; have:=hU.n; unfold most; omega
theorem WN.from_ (hU:UOK U) (T:TI P) (h:WN U s):ans (env P) 16 [.agg (nsP s)]=some (.agg (nsR s)):=from11_ans T (h.nok hU)
theorem WN.same (hU:UOK U) (T:TI P) (h:WN U s):ans (env P) 15 [.agg (nsR s),.agg (nsR s)]=some (bv true):=by
 obtain ⟨b,hb,ha⟩:=rsame11_ans (P:=P) T (s:=s) (t:=s) (h.nok hU)
 rw [hb.2 rfl] at ha
 exact ha
theorem root_WN (hz:zoneRight (toSI all1)=true) (hs:∀ q∈all1,q.sm) (hl:all1.length≤100):WN [[48]] rootN where
 idU:=by simp [rootN]
 how:=by simp [rootN]
 kids:=by simp [rootN]
 seq:=by simp [rootN]
 clock:=by simp [rootN]
 know:=KOK.nil
 knowU:=by simp [rootN]
 gone:=rfl
 floor:=rfl
 store:=List.Pairwise.nil
 storeK:=by simp [rootN]
 storeU:=by simp [rootN]
 storeS:=by simp [rootN]
 zone:=hl
 zoneB:=hs
 zoneR:=hz
 members:=by simp [rootN,idSrt,Srt]
 membersU:=by simp [rootN]
 certs:=⟨List.Pairwise.nil,by simp [rootN],by simp [rootN]⟩
 certsU:=by simp [rootN]
 rows:=⟨List.Pairwise.nil,by simp [rootN],by simp [rootN]⟩
 rowsU:=by simp [rootN]
 vecsU:=by simp [rootN]
end
end Go.Evl.Zone

namespace Go.Evl.Zone
open Go Go.Evl Go.Evl.Fl
variable {P:Program}
section
variable {U:List Bytes} {s x h:NS}
end
section
variable {U:List Bytes} {s x h:NS}
end
end Go.Evl.Zone

namespace Go.Evl.Zone
open Go Go.Evl Go.Evl.Fl
variable {P:Program}
section
variable {U:List Bytes} {s x h:NS}
end
end Go.Evl.Zone

namespace Go.Evl.Zone
open Go Go.Evl Go.Evl.Fl
variable {P:Program}
section
variable {U:List Bytes} {s x h:NS}
structure PairAt (H:Heap) (p rP rR:Nat) (l:List NS):Prop where
 box:H.at_ p = .box [.sl rP 13 l.length 0 l.length,.sl rR 13 l.length 0 l.length]
 rowP:H.at_ rP = .row 13 (l.map fun s=>nsP s) true
 rowR:H.at_ rR = .row 13 (l.map fun s=>nsR s) true
 np:p < H.n
 nP:rP < H.n
 nR:rR < H.n
 ne:rP≠rR
theorem PairAt.gr {H H':Heap} {p rP rR:Nat} {l:List NS} (h:PairAt H p rP rR l) (g:Gr H H'):PairAt H' p rP rR l :=
 ⟨by rw [g.at_ _ h.np,h.box],by rw [g.at_ _ h.nP,h.rowP],by rw [g.at_ _ h.nR,h.rowR],Nat.lt_of_lt_of_le h.np g.n,Nat.lt_of_lt_of_le h.nP g.n,Nat.lt_of_lt_of_le h.nR g.n,h.ne⟩
theorem pSame_loop (hU:UOK U) (T:TI P) {l:List NS} (hl:∀ s∈l,WN U s) (hL:l.length≤8) {p rP rR:Nat} {H:Heap} (hp:PairAt H p rP rR l) {ks:List Fr'} {K:Ex→St→Prop}:∀ (rest:List NS) (i:Nat) (st:St),l.drop i=rest→i≤l.length→st.σ 0 = .ptr p 0→st.σ 3=iv i→Gr H st.h→st.wl=[] →
  (∀ st',Gr H st'.h→st'.wl=[]→VN (env P) 11 st' ks K)→V (env P) 11 (.loop L11_0) st (.blk 0::ks) K
 | [],i,st,hr,hile,h0,h3,hG,hw,hend=>by
   obtain ⟨hii,hlt,hd⟩:=drop_nil hr hile
   have q:=hp.gr hG
   have b1:=q.box
   have n1:=q.np
   rw [V_loop]
   simp [L11_0,h0,h3,b1,n1,hlt]
   exact hend _ hG.grow (by simp [hw])
 | s::rest,i,st,hr,hile,h0,h3,hG,hw,hend=>by
   obtain ⟨hq,hlt,hr',ht⟩:=drop_cons hr
   have hs:=hl s (List.mem_of_getElem? hq)
   have q:=hp.gr hG
   have b1:=q.box
   have n1:=q.np
   have b2:=q.rowP
   have n2:=q.nP
   have b3:=q.rowR
   have n3:=q.nR
   have k1:=hs.from_ (P:=P) hU T
   have k2:=hs.same (P:=P) hU T
   have wi:IntKind.i64.wrap ((i:Int)+1)=((i+1:Nat):Int):=by rw [wrap64_id (by omega)]; rfl
   have cP:(l.map fun s=>nsP s)[i]?=some (nsP s):=by simp [hq]
   have cR:(l.map fun s=>nsR s)[i]?=some (nsR s):=by simp [hq]
   have lP:loadR (.row 13 (l.map fun s=>nsP s) true) rP 13 l.length i 0 13=some (nsP s,[rP]):=by rw [loadR_row ⟨rfl,by simp⟩,cP]; rfl
   have lR:loadR (.row 13 (l.map fun s=>nsR s) true) rR 13 l.length i 0 13=some (nsR s,[rR]):=by rw [loadR_row ⟨rfl,by simp⟩,cR]; rfl
   have e1:¬ p=st.h.n:=by omega
   have e2:¬ rP=st.h.n:=by omega
   have e3:¬ rR=st.h.n:=by omega
   have hil:i < l.length:=hlt
   have hgi:l[i]'hil=s:=(List.getElem?_eq_some_iff.1 hq).2
   simp only [nsP,nsR] at k1 k2
   rw [V_loop]
   simp [L11_0,h0,h3,b1,b2,b3,n1,n2,n3,hlt,hgi,lP,lR,k1,k2,wi,e1,e2,e3]
   refine pSame_loop hU T hl hL hp rest (i+1) _ hr' (by omega) (by simp [h0]) (by simp) (by repeat (first | exact hG | refine Gr.grow ?_)) (by simp [hw]) hend
theorem pSame_IC (hU:UOK U) (T:TI P) {l:List NS} (hl:∀ s∈l,WN U s) (hL:l.length≤8) {p rP rR:Nat} {H:Heap} (hp:PairAt H p rP rR l) {K:PV→Heap→List Nat→Prop} (hk:K (bv true) H []):IC (env P) 11 [.ptr p 0] H K:=by
 refine IC_rd (fun _=>rfl) rfl ?_
 have b1:=hp.box
 have n1:=hp.np
 simp [c11,b1,n1]
 refine pSame_loop hU T hl hL hp l 0 _ rfl (by omega) (by simp) (by simp) (by repeat (first | exact Gr.refl | refine Gr.grow ?_)) (by simp) fun st' hG hw=>?_
 simp [hw]
 refine Rd.mk (bv true) ⟨[],by simp⟩ rfl ?_ (by simp [hw]) hk
 intro i hi
 have:=hG.n
 simp only [at_grow]
 rw [if_pos (by omega)]
 exact hG.at_ i hi
end
end Go.Evl.Zone

namespace Go.Evl.Zone
open Go Go.Evl Go.Evl.Fl
variable {P:Program}
theorem all1_right:zoneRight (toSI all1)=true:=by
 have e0:FloatKind.f64.nearest 0=0:=near0
 simp [zoneRight,toSI,all1,RS.si,e0,foldR,SI.right,needsN]
 try decide
theorem all1_sm:∀ q∈all1,q.sm:=fun q hq=>by
 simp [all1] at hq
 subst hq
 exact ⟨sm0,sm0,sm0⟩
theorem rootN_WN:WN [[48]] rootN:=root_WN all1_right all1_sm (by simp [all1])
theorem root_UOK:UOK [[48]]:=⟨fun a ha=>by rw [List.mem_singleton.1 ha]; decide,by simp⟩
theorem root_LI:LI [[48]] [rootN]:=⟨by simp,by simp,fun s hs=>by rw [List.mem_singleton.1 hs]; exact rootN_WN⟩
end Go.Evl.Zone

set_option maxRecDepth 100000
namespace Go.Evl.Zone
open Go Go.Evl Go.Evl.Fl
variable {P:Program}
noncomputable def cP (s:NS):List PV:=nsP s
def cR (s:NS):List PV:=nsR s
@[simp] theorem cP_len (s:NS):(cP s).length=13:=rfl
@[simp] theorem cR_len (s:NS):(cR s).length=13:=rfl
@[simp] theorem cP_cell (s:NS):(cP s).all cellP=true:=by simp [cP]
@[simp] theorem cR_cell (s:NS):(cR s).all cellP=true:=by simp [cR]
@[simp] theorem cP_exp (H:Heap) (s:NS):expCs H (cP s)=some (cP s,[]):=by simp [cP]
@[simp] theorem cR_exp (H:Heap) (s:NS):expCs H (cR s)=some (cR s,[]):=by simp [cR]
theorem slice13 {c:List PV} (h:c.length=13):slice0 c 0 13=some c:=by
 unfold slice0
 rw [if_pos (by omega),List.drop_zero,List.take_of_length_le (by omega)]
@[simp] theorem cP_take (s:NS):List.take 13 (cP s)=cP s:=List.take_of_length_le (by simp)
@[simp] theorem cR_take (s:NS):List.take 13 (cR s)=cR s:=List.take_of_length_le (by simp)
@[simp] theorem cP_slice (s:NS):slice0 (cP s) 0 13=some (cP s):=slice13 rfl
@[simp] theorem cR_slice (s:NS):slice0 (cR s) 0 13=some (cR s):=slice13 rfl
theorem setL13 {c d:List PV} (h:c.length=13) (h':d.length=13):setL c 0 d=d:=by
 unfold setL
 rw [List.drop_of_length_le (by omega)]
 simp
theorem cP_set {c:List PV} (s:NS) (h:c.length=13):setL c 0 (cP s)=cP s:=setL13 h rfl
theorem cR_set {c:List PV} (s:NS) (h:c.length=13):setL c 0 (cR s)=cR s:=setL13 h rfl
theorem atN_at {l:List NS} {i:Nat} (h:i < l.length):l[i]?=some (atN l i):=by
 unfold atN; rw [List.getElem?_eq_getElem h]; rfl
theorem loadN {f:NS→List PV} (hf:∀ s,(f s).length=13) {m:List NS} {r n i:Nat} (hm:m.length=n) (h:i < n):loadR (.row 13 (m.map f) true) r 13 n i 0 13=some (f (atN m i),[r]):=by
 rw [loadR_row ⟨rfl,by simp [hm]⟩,List.getElem?_map,atN_at (by omega)]
 show (slice0 (f (atN m i)) 0 13).map _=_
 rw [slice13 (hf _)]
 rfl
theorem storeN {f:NS→List PV} (hf:∀ s,(f s).length=13) {H:Heap} {m:List NS} {r n i:Nat} {s:NS} (hm:m.length=n) (h:i < n):storeR H (.row 13 (m.map f) true) r 13 n i 0 (f s)=some (H.put r (.row 13 ((m.set i s).map f) true),r):=by
 rw [storeRG (y:=f (atN m i)) (by simp [hm]) (by rw [List.getElem?_map,atN_at (by omega)]; rfl) (hf _) (hf _),List.map_set]
theorem chunk13 {c:List PV} (h:c.length=13):chunks 13 1 c=[c]:=by
 simp [chunks,List.take_of_length_le,h]
theorem el13 {H:Heap} {r:Nat} {y:List PV} (hb:H.at_ r = .row 13 [y] true):elems H 13 (.sl r 13 1 0 1)=some ([y],[r]):=by
 unfold elems
 simp only [hb]
 rfl
theorem append13 {H:Heap} {slot r n:Nat} {xs:List (List PV)} {y:List PV} (hb:H.at_ r = .row 13 xs true) (hn:xs.length=n) (hm:n+1≤most:=by unfold most; omega) :
  appendP H slot 13 (.sl r 13 n 0 n) [y]=some (.sl r 13 (n+1) 0 (n+1),H.put r (.row 13 (xs++[y]) true),[r],[r]):=by
 unfold appendP
 simp only [hb]
 rw [if_neg (by simp),if_pos ⟨trivial,trivial,hn.symm,by omega⟩,if_neg (by simp; omega),if_pos ⟨trivial,by simpa using hm⟩,List.take_of_length_le (by omega)]
 rfl
structure PX (H:Heap) (p rP rR:Nat) (l:List NS):Prop where
 box:H.at_ p = .box [.sl rP 13 l.length 0 l.length,.sl rR 13 l.length 0 l.length]
 rowP:H.at_ rP = .row 13 (l.map cP) true
 rowR:H.at_ rR = .row 13 (l.map cR) true
 np:p < H.n
 nP:rP < H.n
 nR:rR < H.n
theorem PairAt.px {H:Heap} {p rP rR:Nat} {l:List NS} (h:PairAt H p rP rR l):PX H p rP rR l:=⟨h.box,h.rowP,h.rowR,h.np,h.nP,h.nR⟩
theorem PX.pair {H:Heap} {p rP rR:Nat} {l:List NS} (h:PX H p rP rR l) (e:rP≠rR):PairAt H p rP rR l:=⟨h.box,h.rowP,h.rowR,h.np,h.nP,h.nR,e⟩
theorem PX.gr {H H':Heap} {p rP rR:Nat} {l:List NS} (h:PX H p rP rR l) (g:Gr H H'):PX H' p rP rR l :=
 ⟨by rw [g.at_ _ h.np,h.box],by rw [g.at_ _ h.nP,h.rowP],by rw [g.at_ _ h.nR,h.rowR],Nat.lt_of_lt_of_le h.np g.n,Nat.lt_of_lt_of_le h.nP g.n,Nat.lt_of_lt_of_le h.nR g.n⟩
theorem PX.grow {H:Heap} {p rP rR m:Nat} {l:List NS} (h:PX H p rP rR l):PX (H.grow m) p rP rR l:=h.gr (Gr.grow Gr.refl)
structure Kp (H H':Heap) (p rP rR:Nat):Prop where
 n:H.n≤H'.n
 at_:∀ i,i < H.n→i≠p→i≠rP→i≠rR→H'.at_ i=H.at_ i
theorem Kp.refl {H:Heap} {p rP rR:Nat}:Kp H H p rP rR:=⟨Nat.le_refl _,fun _ _ _ _ _=>rfl⟩
theorem Kp.grow {H H':Heap} {p rP rR m:Nat} (a:Kp H H' p rP rR):Kp H (H'.grow m) p rP rR:=⟨by simpa using Nat.le_trans a.n (Nat.le_add_right _ _),fun i h h1 h2 h3=>by
 have:=a.n
 simp only [at_grow]
 rw [if_pos (by omega),a.at_ i h h1 h2 h3]⟩
theorem Kp.put {H H':Heap} {p rP rR s:Nat} {b:Blk} (a:Kp H H' p rP rR) (hs:H.n≤s∨s=p∨s=rP∨s=rR):Kp H (H'.put s b) p rP rR:=⟨by simpa using a.n,fun i h h1 h2 h3=>by
 simp only [at_put]
 rw [if_neg (by omega),a.at_ i h h1 h2 h3]⟩
structure DoF (P:Program) (V:List Bytes) (l:List NS) (o:NOp) (p rP rR:Nat) (H:Heap) (i j:Nat) (s t:NS):Prop where
 hU2:UOK V
 hL2:LI V (doS l o)
 hkid:s.how=0→mayKid s=true→kidS s∈V
 f1:smI o.x
 f2:smI o.y
 f3:∀ q∈o.zone,q.sm
 hpos:0 < l.length
 hle:l.length≤8
 hi:i < l.length
 hj:j < l.length
 hs:WN V s
 ht:WN V t
 hie:i=idxN o.who l.length
 hje:j=idxN o.other l.length
 hse:s=atN l i
 hte:t=atN l j
 T0:Typed P
 e3:∀ n:Int,scal P (Go.convert 3 34 (.int .i64 n))=some (.val (.int .u64 (n % 18446744073709551616)))
 e4:∀ n:Nat,n < 32→scal P (Go.convert 34 3 (.int .u64 (n:Int)))=some (.val (.int .i64 (n:Int)))
 e5w:(o.who % 18446744073709551616).tmod (l.length:Int)=(i:Int)
 e5o:(o.other % 18446744073709551616).tmod (l.length:Int)=(j:Int)
 e4w:scal P (Go.convert 34 3 (.int .u64 (i:Int)))=some (.val (.int .i64 (i:Int)))
 e4o:scal P (Go.convert 34 3 (.int .u64 (j:Int)))=some (.val (.int .i64 (j:Int)))
 e7:(o.kind % 18446744073709551616).tmod 8=(idxN o.kind 8:Int)
 e6:(l.length:Int) % 18446744073709551616=(l.length:Int)
 l0:∀ a:Int,evBin P .rem 34 false false (.val (.int .u64 a)) (.val (.int .u64 (l.length:Int)))=some (.val (.int .u64 (a.tmod (l.length:Int))))
 b1:H.at_ p = .box [.sl rP 13 l.length 0 l.length,.sl rR 13 l.length 0 l.length]
 b2:H.at_ rP = .row 13 (l.map cP) true
 b3:H.at_ rR = .row 13 (l.map cR) true
 n1:p < H.n
 n2:rP < H.n
 n3:rR < H.n
 d0:rP≠rR
 d0':¬ rR=rP
 d1:¬ p=rP
 d1':¬ rP=p
 d2:¬ p=rR
 d2':¬ rR=p
 z0:(p < H.n)∧(¬ p=H.n)∧(¬ H.n=p)∧(p < H.n+1)∧(¬ p=H.n+1)∧(¬ H.n+1=p)∧(p < H.n+1+1)∧(¬ p=H.n+1+1)∧(¬ H.n+1+1=p)∧(p < H.n+1+1+1)∧(¬ p=H.n+1+1+1)∧(¬ H.n+1+1+1=p)∧(p < H.n+1+1+1+1)∧(¬ p=H.n+1+1+1+1)∧(¬ H.n+1+1+1+1=p)∧(p < H.n+1+2)∧(¬ p=H.n+1+2)∧(¬ H.n+1+2=p)∧(p < H.n+1+2+1)∧(¬ p=H.n+1+2+1)∧(¬ H.n+1+2+1=p)∧(p < H.n+1+2+2)∧(¬ p=H.n+1+2+2)∧(¬ H.n+1+2+2=p)∧(p < H.n+1+2+2+1)∧(¬ p=H.n+1+2+2+1)∧(¬ H.n+1+2+2+1=p)∧(p < H.n+1+2+2+2)∧(¬ p=H.n+1+2+2+2)∧(¬ H.n+1+2+2+2=p)∧(p < H.n+1+2+2+1+1)∧(¬ p=H.n+1+2+2+1+1)∧(¬ H.n+1+2+2+1+1=p)∧(p < H.n+1+2+2+1+1+1)∧(¬ p=H.n+1+2+2+1+1+1)∧(¬ H.n+1+2+2+1+1+1=p)∧(p < H.n+1+2+2+2+1)∧(¬ p=H.n+1+2+2+2+1)∧(¬ H.n+1+2+2+2+1=p)∧(p < H.n+1+2+2+4)∧(¬ p=H.n+1+2+2+4)∧(¬ H.n+1+2+2+4=p)∧(p < H.n+1+2+2+4+1)∧(¬ p=H.n+1+2+2+4+1)∧(¬ H.n+1+2+2+4+1=p)∧(p < H.n+2)∧(¬ p=H.n+2)∧(¬ H.n+2=p)∧(p < H.n+3)∧(¬ p=H.n+3)∧(¬ H.n+3=p)∧(p < H.n+4)∧(¬ p=H.n+4)∧(¬ H.n+4=p)∧(p < H.n+5)∧(¬ p=H.n+5)∧(¬ H.n+5=p)∧(p < H.n+6)∧(¬ p=H.n+6)∧(¬ H.n+6=p)∧(p < H.n+9)∧(¬ p=H.n+9)∧(¬ H.n+9=p)∧(p < H.n+5+1)∧(¬ p=H.n+5+1)∧(¬ H.n+5+1=p)∧(p < H.n+5+1+1)∧(¬ p=H.n+5+1+1)∧(¬ H.n+5+1+1=p)∧(p < H.n+5+1+1+1)∧(¬ p=H.n+5+1+1+1)∧(¬ H.n+5+1+1+1=p)∧(p < H.n+5+2)∧(¬ p=H.n+5+2)∧(¬ H.n+5+2=p)∧(p < H.n+5+4)∧(¬ p=H.n+5+4)∧(¬ H.n+5+4=p)∧(p < H.n+3+1)∧(¬ p=H.n+3+1)∧(¬ H.n+3+1=p)∧(p < H.n+3+2)∧(¬ p=H.n+3+2)∧(¬ H.n+3+2=p)
 z1:(rP < H.n)∧(¬ rP=H.n)∧(¬ H.n=rP)∧(rP < H.n+1)∧(¬ rP=H.n+1)∧(¬ H.n+1=rP)∧(rP < H.n+1+1)∧(¬ rP=H.n+1+1)∧(¬ H.n+1+1=rP)∧(rP < H.n+1+1+1)∧(¬ rP=H.n+1+1+1)∧(¬ H.n+1+1+1=rP)∧(rP < H.n+1+1+1+1)∧(¬ rP=H.n+1+1+1+1)∧(¬ H.n+1+1+1+1=rP)∧(rP < H.n+1+2)∧(¬ rP=H.n+1+2)∧(¬ H.n+1+2=rP)∧(rP < H.n+1+2+1)∧(¬ rP=H.n+1+2+1)∧(¬ H.n+1+2+1=rP)∧(rP < H.n+1+2+2)∧(¬ rP=H.n+1+2+2)∧(¬ H.n+1+2+2=rP)∧(rP < H.n+1+2+2+1)∧(¬ rP=H.n+1+2+2+1)∧(¬ H.n+1+2+2+1=rP)∧(rP < H.n+1+2+2+2)∧(¬ rP=H.n+1+2+2+2)∧(¬ H.n+1+2+2+2=rP)∧(rP < H.n+1+2+2+1+1)∧(¬ rP=H.n+1+2+2+1+1)∧(¬ H.n+1+2+2+1+1=rP)∧(rP < H.n+1+2+2+1+1+1)∧(¬ rP=H.n+1+2+2+1+1+1)∧(¬ H.n+1+2+2+1+1+1=rP)∧(rP < H.n+1+2+2+2+1)∧(¬ rP=H.n+1+2+2+2+1)∧(¬ H.n+1+2+2+2+1=rP)∧(rP < H.n+1+2+2+4)∧(¬ rP=H.n+1+2+2+4)∧(¬ H.n+1+2+2+4=rP)∧(rP < H.n+1+2+2+4+1)∧(¬ rP=H.n+1+2+2+4+1)∧(¬ H.n+1+2+2+4+1=rP)∧(rP < H.n+2)∧(¬ rP=H.n+2)∧(¬ H.n+2=rP)∧(rP < H.n+3)∧(¬ rP=H.n+3)∧(¬ H.n+3=rP)∧(rP < H.n+4)∧(¬ rP=H.n+4)∧(¬ H.n+4=rP)∧(rP < H.n+5)∧(¬ rP=H.n+5)∧(¬ H.n+5=rP)∧(rP < H.n+6)∧(¬ rP=H.n+6)∧(¬ H.n+6=rP)∧(rP < H.n+9)∧(¬ rP=H.n+9)∧(¬ H.n+9=rP)∧(rP < H.n+5+1)∧(¬ rP=H.n+5+1)∧(¬ H.n+5+1=rP)∧(rP < H.n+5+1+1)∧(¬ rP=H.n+5+1+1)∧(¬ H.n+5+1+1=rP)∧(rP < H.n+5+1+1+1)∧(¬ rP=H.n+5+1+1+1)∧(¬ H.n+5+1+1+1=rP)∧(rP < H.n+5+2)∧(¬ rP=H.n+5+2)∧(¬ H.n+5+2=rP)∧(rP < H.n+5+4)∧(¬ rP=H.n+5+4)∧(¬ H.n+5+4=rP)∧(rP < H.n+3+1)∧(¬ rP=H.n+3+1)∧(¬ H.n+3+1=rP)∧(rP < H.n+3+2)∧(¬ rP=H.n+3+2)∧(¬ H.n+3+2=rP)
 z2:(rR < H.n)∧(¬ rR=H.n)∧(¬ H.n=rR)∧(rR < H.n+1)∧(¬ rR=H.n+1)∧(¬ H.n+1=rR)∧(rR < H.n+1+1)∧(¬ rR=H.n+1+1)∧(¬ H.n+1+1=rR)∧(rR < H.n+1+1+1)∧(¬ rR=H.n+1+1+1)∧(¬ H.n+1+1+1=rR)∧(rR < H.n+1+1+1+1)∧(¬ rR=H.n+1+1+1+1)∧(¬ H.n+1+1+1+1=rR)∧(rR < H.n+1+2)∧(¬ rR=H.n+1+2)∧(¬ H.n+1+2=rR)∧(rR < H.n+1+2+1)∧(¬ rR=H.n+1+2+1)∧(¬ H.n+1+2+1=rR)∧(rR < H.n+1+2+2)∧(¬ rR=H.n+1+2+2)∧(¬ H.n+1+2+2=rR)∧(rR < H.n+1+2+2+1)∧(¬ rR=H.n+1+2+2+1)∧(¬ H.n+1+2+2+1=rR)∧(rR < H.n+1+2+2+2)∧(¬ rR=H.n+1+2+2+2)∧(¬ H.n+1+2+2+2=rR)∧(rR < H.n+1+2+2+1+1)∧(¬ rR=H.n+1+2+2+1+1)∧(¬ H.n+1+2+2+1+1=rR)∧(rR < H.n+1+2+2+1+1+1)∧(¬ rR=H.n+1+2+2+1+1+1)∧(¬ H.n+1+2+2+1+1+1=rR)∧(rR < H.n+1+2+2+2+1)∧(¬ rR=H.n+1+2+2+2+1)∧(¬ H.n+1+2+2+2+1=rR)∧(rR < H.n+1+2+2+4)∧(¬ rR=H.n+1+2+2+4)∧(¬ H.n+1+2+2+4=rR)∧(rR < H.n+1+2+2+4+1)∧(¬ rR=H.n+1+2+2+4+1)∧(¬ H.n+1+2+2+4+1=rR)∧(rR < H.n+2)∧(¬ rR=H.n+2)∧(¬ H.n+2=rR)∧(rR < H.n+3)∧(¬ rR=H.n+3)∧(¬ H.n+3=rR)∧(rR < H.n+4)∧(¬ rR=H.n+4)∧(¬ H.n+4=rR)∧(rR < H.n+5)∧(¬ rR=H.n+5)∧(¬ H.n+5=rR)∧(rR < H.n+6)∧(¬ rR=H.n+6)∧(¬ H.n+6=rR)∧(rR < H.n+9)∧(¬ rR=H.n+9)∧(¬ H.n+9=rR)∧(rR < H.n+5+1)∧(¬ rR=H.n+5+1)∧(¬ H.n+5+1=rR)∧(rR < H.n+5+1+1)∧(¬ rR=H.n+5+1+1)∧(¬ H.n+5+1+1=rR)∧(rR < H.n+5+1+1+1)∧(¬ rR=H.n+5+1+1+1)∧(¬ H.n+5+1+1+1=rR)∧(rR < H.n+5+2)∧(¬ rR=H.n+5+2)∧(¬ H.n+5+2=rR)∧(rR < H.n+5+4)∧(¬ rR=H.n+5+4)∧(¬ H.n+5+4=rR)∧(rR < H.n+3+1)∧(¬ rR=H.n+3+1)∧(¬ H.n+3+1=rR)∧(rR < H.n+3+2)∧(¬ rR=H.n+3+2)∧(¬ H.n+3+2=rR)
 hii:(i:Int) < l.length
 hji:(j:Int) < l.length
 aPs:loadR (.row 13 (l.map cP) true) rP 13 l.length i 0 13=some (cP s,[rP])
 aRs:loadR (.row 13 (l.map cR) true) rR 13 l.length i 0 13=some (cR s,[rR])
 aPt:loadR (.row 13 (l.map cP) true) rP 13 l.length j 0 13=some (cP t,[rP])
 aRt:loadR (.row 13 (l.map cR) true) rR 13 l.length j 0 13=some (cR t,[rR])
 sP:∀ (H:Heap) (m:List NS) (i:Nat) (s:NS),m.length=l.length→i < l.length→storeR H (.row 13 (m.map cP) true) rP 13 l.length i 0 (cP s)=some (H.put rP (.row 13 ((m.set i s).map cP) true),rP)
 sR:∀ (H:Heap) (m:List NS) (i:Nat) (s:NS),m.length=l.length→i < l.length→storeR H (.row 13 (m.map cR) true) rR 13 l.length i 0 (cR s)=some (H.put rR (.row 13 ((m.set i s).map cR) true),rR)
 fin:∀ (H2:Heap) (m:List NS),m=doS l o→PX H2 p rP rR m→IC (env P) 11 [.ptr p 0] H2 (fun v H' wl=>v=bv true∧H'=H2∧wl=[]∧PX H2 p rP rR m)
theorem DoF.of {P:Program} {U:List Bytes} (hU:UOK U) (T:TB P) {l:List NS} (hl:LI U l) (hn:U.length < 1000) {o:NOp} (ho:fewO o=true) {p rP rR:Nat} {H:Heap} (hp:PairAt H p rP rR l):∃ V i j s t,DoF P V l o p rP rR H i j s t:=by
 obtain ⟨hU2,_,hsub,hkid⟩:=hl.doU hU (o:=o) hn
 have hL2:=hl.doS hU ho hn
 have h2:=hl.mono hsub
 generalize doU U l o=V at hU2 hsub hkid hL2 h2
 obtain ⟨f1,f2,f3⟩:=few_xy ho
 have hpos:=hl.pos
 have hle:=hl.le
 have hi:=idxN_lt (a:=o.who) hpos
 have hj:=idxN_lt (a:=o.other) hpos
 have T0:Typed P:=T.toTI.toTyped3.toTyped2.toTyped
 have b1:=hp.box
 have b2:H.at_ rP = .row 13 (l.map cP) true:=hp.rowP
 have b3:H.at_ rR = .row 13 (l.map cR) true:=hp.rowR
 have n1:=hp.np
 have n2:=hp.nP
 have n3:=hp.nR
 have d0:=hp.ne
 have d1:¬ p=rP:=fun e=>by rw [e,b2] at b1; cases b1
 have d2:¬ p=rR:=fun e=>by rw [e,b3] at b1; cases b1
 have e4:∀ n:Nat,n < 32→scal P (Go.convert 34 3 (.int .u64 (n:Int)))=some (.val (.int .i64 (n:Int))):=fun n h=>by
  rw [cv_ii (k:=.i64) (by show (P.underlying 34).isSome=true; rw [T0.t53]; rfl) T0.t3,wrap64_id (by omega)]
 have e5:∀ (a:Int) (n:Nat),0 < n→(a % 18446744073709551616).tmod (n:Int)=(idxN a n:Int):=fun a n h=>by
  rw [tmod_pos (by omega) (by omega)]
  have h1:=Int.emod_nonneg (IntKind.u64.wrap a) (show (n:Int)≠0 by omega)
  unfold idxN
  rw [wrapU64] at h1 ⊢
  omega
 refine ⟨V,idxN o.who l.length,idxN o.other l.length,atN l (idxN o.who l.length),atN l (idxN o.other l.length),?_⟩
 exact {
  hU2:=hU2
  hL2:=hL2
  hkid:=hkid
  f1:=f1
  f2:=f2
  f3:=f3
  hpos:=hpos
  hle:=hle
  hi:=hi
  hj:=hj
  hs:=h2.wn _ (atN_mem hi)
  ht:=h2.wn _ (atN_mem hj)
  hie:=rfl
  hje:=rfl
  hse:=rfl
  hte:=rfl
  T0:=T0
  e3:=fun n=>by rw [cv_ii (k:=.u64) (by show (P.underlying 3).isSome=true; rw [T0.t3]; rfl) T0.t53,wrapU64]
  e4:=e4
  e5w:=e5 o.who _ hpos
  e5o:=e5 o.other _ hpos
  e4w:=e4 _ (by omega)
  e4o:=e4 _ (by omega)
  e7:=e5 o.kind 8 (by omega)
  e6:=by omega
  l0:=fun a=>evBin_rem (by omega)
  b1:=b1
  b2:=b2
  b3:=b3
  n1:=n1
  n2:=n2
  n3:=n3
  d0:=d0
  d0':=fun e=>d0 e.symm
  d1:=d1
  d1':=fun e=>d1 e.symm
  d2:=d2
  d2':=fun e=>d2 e.symm
  z0:=by refine ⟨?_,?_,?_,?_,?_,?_,?_,?_,?_,?_,?_,?_,?_,?_,?_,?_,?_,?_,?_,?_,?_,?_,?_,?_,?_,?_,?_,?_,?_,?_,?_,?_,?_,?_,?_,?_,?_,?_,?_,?_,?_,?_,?_,?_,?_,?_,?_,?_,?_,?_,?_,?_,?_,?_,?_,?_,?_,?_,?_,?_,?_,?_,?_,?_,?_,?_,?_,?_,?_,?_,?_,?_,?_,?_,?_,?_,?_,?_,?_,?_,?_,?_,?_,?_⟩ <;> omega
  z1:=by refine ⟨?_,?_,?_,?_,?_,?_,?_,?_,?_,?_,?_,?_,?_,?_,?_,?_,?_,?_,?_,?_,?_,?_,?_,?_,?_,?_,?_,?_,?_,?_,?_,?_,?_,?_,?_,?_,?_,?_,?_,?_,?_,?_,?_,?_,?_,?_,?_,?_,?_,?_,?_,?_,?_,?_,?_,?_,?_,?_,?_,?_,?_,?_,?_,?_,?_,?_,?_,?_,?_,?_,?_,?_,?_,?_,?_,?_,?_,?_,?_,?_,?_,?_,?_,?_⟩ <;> omega
  z2:=by refine ⟨?_,?_,?_,?_,?_,?_,?_,?_,?_,?_,?_,?_,?_,?_,?_,?_,?_,?_,?_,?_,?_,?_,?_,?_,?_,?_,?_,?_,?_,?_,?_,?_,?_,?_,?_,?_,?_,?_,?_,?_,?_,?_,?_,?_,?_,?_,?_,?_,?_,?_,?_,?_,?_,?_,?_,?_,?_,?_,?_,?_,?_,?_,?_,?_,?_,?_,?_,?_,?_,?_,?_,?_,?_,?_,?_,?_,?_,?_,?_,?_,?_,?_,?_,?_⟩ <;> omega
  hii:=by omega
  hji:=by omega
  aPs:=loadN cP_len rfl hi
  aRs:=loadN cR_len rfl hi
  aPt:=loadN cP_len rfl hj
  aRt:=loadN cR_len rfl hj
  sP:=fun H m i s h h'=>storeN cP_len h h'
  sR:=fun H m i s h h'=>storeN cR_len h h'
  fin:=fun H2 m e h=>by
   subst e
   exact pSame_IC hU2 T.toTI hL2.wn hL2.le (h.pair d0) ⟨rfl,rfl,rfl,h⟩ }
end Go.Evl.Zone

set_option maxRecDepth 100000
namespace Go.Evl.Zone
open Go Go.Evl Go.Evl.Fl
variable {P:Program}
theorem do3_KC (T:TB P) {V:List Bytes} {l:List NS} {o:NOp} {p rP rR:Nat} {H:Heap} {i j:Nat} {s t:NS} (F:DoF P V l o p rP rR H i j s t) (hkk:idxN o.kind 8=3) {K:PV→Heap→List Nat→Prop}
  (hk:∀ H' wl,PairAt H' p rP rR (doS l o)→Kp H H' p rP rR→K (bv true) H' wl):KC (env P) 13 [.ptr p 0,.agg (opC o)] H K:=by
 obtain ⟨hU2,hL2,hkid,f1,f2,f3,hpos,hle,hi,hj,hs,ht,hie,hje,hse,hte,T0,e3,e4,e5w,e5o,e4w,e4o,e7,e6,l0,b1,b2,b3,n1,n2,n3,d0,d0',d1,d1',d2,d2',z0,z1,z2,hii,hji,aPs,aRs,aPt,aRt,sP,sR,fin⟩:=F
 obtain ⟨s1,hs1⟩:∃ s1,s1=(deleteS s o.key).1:=⟨_,rfl⟩
 obtain ⟨er,her⟩:∃ er,er=(deleteS s o.key).2:=⟨_,rfl⟩
 have c1:ans (env P) 58 [.agg (cP s),iv o.key]=some (.tup [.agg (cP s1),iv er]):=by rw [hs1,her]; exact hs.delete hU2 T
 have c2:ans (env P) 59 [.agg (cR s),iv o.key]=some (.tup [.agg (cR s1),iv er]):=by rw [hs1,her]; exact hs.rdelete hU2 T
 have hd:doS l o=l.set i s1:=by simp only [doS,hkk,← hie,← hje,← hse,← hte,hs1]
 have e7:(o.kind % 18446744073709551616).tmod 8=3:=by rw [e7,hkk]; rfl
 have e4k:scal P (Go.convert 34 3 (.int .u64 3))=some (.val (.int .i64 3)):=e4 3 (by omega)
 refine KC_of (fun _=>rfl) rfl ?_
 simp [c13,resV,resP,b1,b2,b3,n1,n2,n3,d0,d0',d1,d1',d2,d2',z0,z1,z2,aPs,aRs,aPt,aRt,sP,sR,e3,e5w,e5o,e4w,e4o,e4k,e6,e7,l0,hpos,hi,hj,hii,hji,cP_set,cR_set,c1,c2]
 refine VA_inl rfl rfl ((fin _ _ hd.symm ⟨by simp [b1,n1,z0,d1,d2,d1',d2'],by simp [b2,n2,z1,d0,d0',d1,d1',d2,d2'],by simp [b3,n3,z2,d0,d0',d1,d1',d2,d2'],by simp [n1,z0],by simp [n2,z1],by simp [n3,z2]⟩).mono ?_)
 rintro v H' wl ⟨rfl,rfl,rfl,hpx⟩
 rw [hd] at hk
 simp
 exact hk _ _ (PX.pair (by repeat (first | exact hpx | refine PX.grow ?_)) d0) (by repeat (first | exact Kp.refl | refine Kp.grow ?_ | refine Kp.put ?_ (by omega)))
end Go.Evl.Zone

set_option maxRecDepth 100000
namespace Go.Evl.Zone
open Go Go.Evl Go.Evl.Fl
variable {P:Program}
theorem do4_KC (T:TB P) {V:List Bytes} {l:List NS} {o:NOp} {p rP rR:Nat} {H:Heap} {i j:Nat} {s t:NS} (F:DoF P V l o p rP rR H i j s t) (ho:fewO o=true) (hkk:idxN o.kind 8=4) {K:PV→Heap→List Nat→Prop}
  (hk:∀ H' wl,PairAt H' p rP rR (doS l o)→Kp H H' p rP rR→K (bv true) H' wl):KC (env P) 13 [.ptr p 0,.agg (opC o)] H K:=by
 obtain ⟨hU2,hL2,hkid,f1,f2,f3,hpos,hle,hi,hj,hs,ht,hie,hje,hse,hte,T0,e3,e4,e5w,e5o,e4w,e4o,e7,e6,l0,b1,b2,b3,n1,n2,n3,d0,d0',d1,d1',d2,d2',z0,z1,z2,hii,hji,aPs,aRs,aPt,aRt,sP,sR,fin⟩:=F
 obtain ⟨s1,hs1⟩:∃ s1,s1=(setZoneS s o.zone).1:=⟨_,rfl⟩
 obtain ⟨er,her⟩:∃ er,er=(setZoneS s o.zone).2:=⟨_,rfl⟩
 have c1:ans (env P) 25 [.agg (cP s),.im (stepsV (toSI o.zone)) false]=some (.tup [.agg (cP s1),iv er]):=by rw [hs1,her]; exact hs.setZone hU2 T f3
 have c2:ans (env P) 60 [.agg (cR s),.im (rsV o.zone) false]=some (.tup [.agg (cR s1),iv er]):=by rw [hs1,her]; exact hs.rsetZone hU2 T f3
 have hd:doS l o=l.set i s1:=by simp only [doS,hkk,← hie,← hje,← hse,← hte,hs1]
 have e7:(o.kind % 18446744073709551616).tmod 8=4:=by rw [e7,hkk]; rfl
 have e4k:scal P (Go.convert 34 3 (.int .u64 4))=some (.val (.int .i64 4)):=e4 4 (by omega)
 have hzl:o.zone.length≤most:=by
  simp only [fewO,fewO1,Bool.and_eq_true,decide_eq_true_eq] at ho
  unfold most; omega
 have c3:=to_ans T0 hzl
 refine KC_of (fun _=>rfl) rfl ?_
 simp [c13,resV,resP,b1,b2,b3,n1,n2,n3,d0,d0',d1,d1',d2,d2',z0,z1,z2,aPs,aRs,aPt,aRt,sP,sR,e3,e5w,e5o,e4w,e4o,e4k,e6,e7,l0,hpos,hi,hj,hii,hji,cP_set,cR_set,c1,c2,c3]
 refine VA_inl rfl rfl ((fin _ _ hd.symm ⟨by simp [b1,n1,z0,d1,d2,d1',d2'],by simp [b2,n2,z1,d0,d0',d1,d1',d2,d2'],by simp [b3,n3,z2,d0,d0',d1,d1',d2,d2'],by simp [n1,z0],by simp [n2,z1],by simp [n3,z2]⟩).mono ?_)
 rintro v H' wl ⟨rfl,rfl,rfl,hpx⟩
 rw [hd] at hk
 simp
 exact hk _ _ (PX.pair (by repeat (first | exact hpx | refine PX.grow ?_)) d0) (by repeat (first | exact Kp.refl | refine Kp.grow ?_ | refine Kp.put ?_ (by omega)))
end Go.Evl.Zone

set_option maxRecDepth 100000
namespace Go.Evl.Zone
open Go Go.Evl Go.Evl.Fl
variable {P:Program}
theorem do5_KC (T:TB P) {V:List Bytes} {l:List NS} {o:NOp} {p rP rR:Nat} {H:Heap} {i j:Nat} {s t:NS} (F:DoF P V l o p rP rR H i j s t) (hkk:idxN o.kind 8=5) (h8:l.length < 8) (h00:(childS s).2.2=0) {K:PV→Heap→List Nat→Prop}
  (hk:∀ H' wl,PairAt H' p rP rR (doS l o)→Kp H H' p rP rR→K (bv true) H' wl):KC (env P) 13 [.ptr p 0,.agg (opC o)] H K:=by
 obtain ⟨hU2,hL2,hkid,f1,f2,f3,hpos,hle,hi,hj,hs,ht,hie,hje,hse,hte,T0,e3,e4,e5w,e5o,e4w,e4o,e7,e6,l0,b1,b2,b3,n1,n2,n3,d0,d0',d1,d1',d2,d2',z0,z1,z2,hii,hji,aPs,aRs,aPt,aRt,sP,sR,fin⟩:=F
 obtain ⟨s1,hs1⟩:∃ s1,s1=(childS s).1:=⟨_,rfl⟩
 obtain ⟨s2,hs2⟩:∃ s2,s2=(childS s).2.1:=⟨_,rfl⟩
 obtain ⟨er,her⟩:∃ er,er=(childS s).2.2:=⟨_,rfl⟩
 have c1:ans (env P) 18 [.agg (cP s)]=some (.tup [.agg (cP s1),.agg (cP s2),iv er]):=by rw [hs1,hs2,her]; exact hs.child hU2 T hkid
 have c2:ans (env P) 61 [.agg (cR s)]=some (.tup [.agg (cR s1),.agg (cR s2),iv er]):=by rw [hs1,hs2,her]; exact hs.rchild hU2 hkid
 have e7:(o.kind % 18446744073709551616).tmod 8=5:=by rw [e7,hkk]; rfl
 have e4k:scal P (Go.convert 34 3 (.int .u64 5))=some (.val (.int .i64 5)):=e4 5 (by omega)
 have hd0:doS l o=if l.length < 8 then (if er=0 then l.set i s1++[s2] else l.set i s1) else l:=by simp only [doS,hkk,← hie,← hje,← hse,← hte,hs1,hs2,her]
 have h0:er=0:=her.trans h00
 have hd:doS l o=l.set i s1++[s2]:=by rw [hd0,if_pos h8,if_pos h0]
 have h8i:(l.length:Int) < 8:=by omega
 subst h0
 have k1:=chunk13 (cP_len s2)
 have k2:=chunk13 (cR_len s2)
 have q1:∀ (H:Heap) (slot:Nat),H.at_ rP = .row 13 ((l.map cP).set i (cP s1)) true→appendP H slot 13 (.sl rP 13 l.length 0 l.length) [cP s2]=some (.sl rP 13 (l.length+1) 0 (l.length+1),H.put rP (.row 13 ((l.map cP).set i (cP s1)++[cP s2]) true),[rP],[rP]):=fun H slot h=>append13 h (by simp)
 have q2:∀ (H:Heap) (slot:Nat),H.at_ rR = .row 13 ((l.map cR).set i (cR s1)) true→appendP H slot 13 (.sl rR 13 l.length 0 l.length) [cR s2]=some (.sl rR 13 (l.length+1) 0 (l.length+1),H.put rR (.row 13 ((l.map cR).set i (cR s1)++[cR s2]) true),[rR],[rR]):=fun H slot h=>append13 h (by simp)
 refine KC_of (fun _=>rfl) rfl ?_
 simp [c13,resV,resP,b1,b2,b3,n1,n2,n3,d0,d0',d1,d1',d2,d2',z0,z1,z2,aPs,aRs,aPt,aRt,sP,sR,e3,e5w,e5o,e4w,e4o,e4k,e6,e7,l0,hpos,hi,hj,hii,hji,cP_set,cR_set,c1,c2,h8,h8i,k1,k2]
 rw [el13 (y:=cP s2) (by simp [z0,z1,z2])]
 simp only [ob_some]
 rw [q1 _ _ (by simp [b2,n2,z1,d0,d0',d1,d1',d2,d2'])]
 simp [b1,b2,b3,n1,n2,n3,z0,z1,z2,d0,d0',d1,d1',d2,d2',k2,cR_set]
 rw [el13 (y:=cR s2) (by simp [z0,z1,z2])]
 simp only [ob_some]
 rw [q2 _ _ (by simp [b3,n3,z2,d0,d0',d1,d1',d2,d2'])]
 simp [b1,b2,b3,n1,n2,n3,z0,z1,z2,d0,d0',d1,d1',d2,d2']
 refine VA_inl rfl rfl ((fin _ _ hd.symm ⟨by simp [b1,n1,z0,d1,d2,d1',d2'],by simp [b2,n2,z1,d0,d0',d1,d1',d2,d2'],by simp [b3,n3,z2,d0,d0',d1,d1',d2,d2'],by simp [n1,z0],by simp [n2,z1],by simp [n3,z2]⟩).mono ?_)
 rintro v H' wl ⟨rfl,rfl,rfl,hpx⟩
 rw [hd] at hk
 simp
 exact hk _ _ (PX.pair (by repeat (first | exact hpx | refine PX.grow ?_)) d0) (by repeat (first | exact Kp.refl | refine Kp.grow ?_ | refine Kp.put ?_ (by omega)))
end Go.Evl.Zone

set_option maxRecDepth 100000
namespace Go.Evl.Zone
open Go Go.Evl Go.Evl.Fl
variable {P:Program}
theorem do5b_KC (T:TB P) {V:List Bytes} {l:List NS} {o:NOp} {p rP rR:Nat} {H:Heap} {i j:Nat} {s t:NS} (F:DoF P V l o p rP rR H i j s t) (hkk:idxN o.kind 8=5) (h8:l.length < 8) (h00:(childS s).2.2≠0) {K:PV→Heap→List Nat→Prop}
  (hk:∀ H' wl,PairAt H' p rP rR (doS l o)→Kp H H' p rP rR→K (bv true) H' wl):KC (env P) 13 [.ptr p 0,.agg (opC o)] H K:=by
 obtain ⟨hU2,hL2,hkid,f1,f2,f3,hpos,hle,hi,hj,hs,ht,hie,hje,hse,hte,T0,e3,e4,e5w,e5o,e4w,e4o,e7,e6,l0,b1,b2,b3,n1,n2,n3,d0,d0',d1,d1',d2,d2',z0,z1,z2,hii,hji,aPs,aRs,aPt,aRt,sP,sR,fin⟩:=F
 obtain ⟨s1,hs1⟩:∃ s1,s1=(childS s).1:=⟨_,rfl⟩
 obtain ⟨s2,hs2⟩:∃ s2,s2=(childS s).2.1:=⟨_,rfl⟩
 obtain ⟨er,her⟩:∃ er,er=(childS s).2.2:=⟨_,rfl⟩
 have c1:ans (env P) 18 [.agg (cP s)]=some (.tup [.agg (cP s1),.agg (cP s2),iv er]):=by rw [hs1,hs2,her]; exact hs.child hU2 T hkid
 have c2:ans (env P) 61 [.agg (cR s)]=some (.tup [.agg (cR s1),.agg (cR s2),iv er]):=by rw [hs1,hs2,her]; exact hs.rchild hU2 hkid
 have e7:(o.kind % 18446744073709551616).tmod 8=5:=by rw [e7,hkk]; rfl
 have e4k:scal P (Go.convert 34 3 (.int .u64 5))=some (.val (.int .i64 5)):=e4 5 (by omega)
 have hd0:doS l o=if l.length < 8 then (if er=0 then l.set i s1++[s2] else l.set i s1) else l:=by simp only [doS,hkk,← hie,← hje,← hse,← hte,hs1,hs2,her]
 have h0:¬ er=0:=fun e=>h00 (her.symm.trans e)
 have hd:doS l o=l.set i s1:=by rw [hd0,if_pos h8,if_neg h0]
 have h8i:(l.length:Int) < 8:=by omega
 refine KC_of (fun _=>rfl) rfl ?_
 simp [c13,resV,resP,b1,b2,b3,n1,n2,n3,d0,d0',d1,d1',d2,d2',z0,z1,z2,aPs,aRs,aPt,aRt,sP,sR,e3,e5w,e5o,e4w,e4o,e4k,e6,e7,l0,hpos,hi,hj,hii,hji,cP_set,cR_set,c1,c2,h8,h8i,h0]
 refine VA_inl rfl rfl ((fin _ _ hd.symm ⟨by simp [b1,n1,z0,d1,d2,d1',d2'],by simp [b2,n2,z1,d0,d0',d1,d1',d2,d2'],by simp [b3,n3,z2,d0,d0',d1,d1',d2,d2'],by simp [n1,z0],by simp [n2,z1],by simp [n3,z2]⟩).mono ?_)
 rintro v H' wl ⟨rfl,rfl,rfl,hpx⟩
 rw [hd] at hk
 simp
 exact hk _ _ (PX.pair (by repeat (first | exact hpx | refine PX.grow ?_)) d0) (by repeat (first | exact Kp.refl | refine Kp.grow ?_ | refine Kp.put ?_ (by omega)))
end Go.Evl.Zone

set_option maxRecDepth 100000
namespace Go.Evl.Zone
open Go Go.Evl Go.Evl.Fl
variable {P:Program}
theorem do5c_KC (T:TB P) {V:List Bytes} {l:List NS} {o:NOp} {p rP rR:Nat} {H:Heap} {i j:Nat} {s t:NS} (F:DoF P V l o p rP rR H i j s t) (hkk:idxN o.kind 8=5) (h8:¬ l.length < 8) {K:PV→Heap→List Nat→Prop}
  (hk:∀ H' wl,PairAt H' p rP rR (doS l o)→Kp H H' p rP rR→K (bv true) H' wl):KC (env P) 13 [.ptr p 0,.agg (opC o)] H K:=by
 obtain ⟨hU2,hL2,hkid,f1,f2,f3,hpos,hle,hi,hj,hs,ht,hie,hje,hse,hte,T0,e3,e4,e5w,e5o,e4w,e4o,e7,e6,l0,b1,b2,b3,n1,n2,n3,d0,d0',d1,d1',d2,d2',z0,z1,z2,hii,hji,aPs,aRs,aPt,aRt,sP,sR,fin⟩:=F
 obtain ⟨s1,hs1⟩:∃ s1,s1=(childS s).1:=⟨_,rfl⟩
 obtain ⟨s2,hs2⟩:∃ s2,s2=(childS s).2.1:=⟨_,rfl⟩
 obtain ⟨er,her⟩:∃ er,er=(childS s).2.2:=⟨_,rfl⟩
 have c1:ans (env P) 18 [.agg (cP s)]=some (.tup [.agg (cP s1),.agg (cP s2),iv er]):=by rw [hs1,hs2,her]; exact hs.child hU2 T hkid
 have c2:ans (env P) 61 [.agg (cR s)]=some (.tup [.agg (cR s1),.agg (cR s2),iv er]):=by rw [hs1,hs2,her]; exact hs.rchild hU2 hkid
 have e7:(o.kind % 18446744073709551616).tmod 8=5:=by rw [e7,hkk]; rfl
 have e4k:scal P (Go.convert 34 3 (.int .u64 5))=some (.val (.int .i64 5)):=e4 5 (by omega)
 have hd0:doS l o=if l.length < 8 then (if er=0 then l.set i s1++[s2] else l.set i s1) else l:=by simp only [doS,hkk,← hie,← hje,← hse,← hte,hs1,hs2,her]
 have hd:doS l o=l:=by rw [hd0,if_neg h8]
 have h8i:¬ (l.length:Int) < 8:=by omega
 refine KC_of (fun _=>rfl) rfl ?_
 simp [c13,resV,resP,b1,b2,b3,n1,n2,n3,d0,d0',d1,d1',d2,d2',z0,z1,z2,aPs,aRs,aPt,aRt,sP,sR,e3,e5w,e5o,e4w,e4o,e4k,e6,e7,l0,hpos,hi,hj,hii,hji,cP_set,cR_set,c1,c2,h8,h8i]
 refine VA_inl rfl rfl ((fin _ _ hd.symm ⟨by simp [b1,n1,z0,d1,d2,d1',d2'],by simp [b2,n2,z1,d0,d0',d1,d1',d2,d2'],by simp [b3,n3,z2,d0,d0',d1,d1',d2,d2'],by simp [n1,z0],by simp [n2,z1],by simp [n3,z2]⟩).mono ?_)
 rintro v H' wl ⟨rfl,rfl,rfl,hpx⟩
 rw [hd] at hk
 simp
 exact hk _ _ (PX.pair (by repeat (first | exact hpx | refine PX.grow ?_)) d0) (by repeat (first | exact Kp.refl | refine Kp.grow ?_ | refine Kp.put ?_ (by omega)))
end Go.Evl.Zone

set_option maxRecDepth 100000
namespace Go.Evl.Zone
open Go Go.Evl Go.Evl.Fl
variable {P:Program}
theorem do6_KC (T:TB P) {V:List Bytes} {l:List NS} {o:NOp} {p rP rR:Nat} {H:Heap} {i j:Nat} {s t:NS} (F:DoF P V l o p rP rR H i j s t) (hkk:idxN o.kind 8=6) (hij:i=j) {K:PV→Heap→List Nat→Prop}
  (hk:∀ H' wl,PairAt H' p rP rR (doS l o)→Kp H H' p rP rR→K (bv true) H' wl):KC (env P) 13 [.ptr p 0,.agg (opC o)] H K:=by
 obtain ⟨hU2,hL2,hkid,f1,f2,f3,hpos,hle,hi,hj,hs,ht,hie,hje,hse,hte,T0,e3,e4,e5w,e5o,e4w,e4o,e7,e6,l0,b1,b2,b3,n1,n2,n3,d0,d0',d1,d1',d2,d2',z0,z1,z2,hii,hji,aPs,aRs,aPt,aRt,sP,sR,fin⟩:=F
 subst hij
 obtain rfl:s=t:=hse.trans hte.symm
 obtain ⟨s1,hs1⟩:∃ s1,s1=(retireS s s).1:=⟨_,rfl⟩
 obtain ⟨s2,hs2⟩:∃ s2,s2=(retireS s s).2.1:=⟨_,rfl⟩
 obtain ⟨er,her⟩:∃ er,er=(retireS s s).2.2:=⟨_,rfl⟩
 have c1:ans (env P) 14 [.agg (cP s),.agg (cP s)]=some (.tup [.agg (cP s1),.agg (cP s2),iv er]):=by rw [hs1,hs2,her]; exact hs.retire hU2 T hs
 have c2:ans (env P) 62 [.agg (cR s),.agg (cR s)]=some (.tup [.agg (cR s1),.agg (cR s2),iv er]):=by rw [hs1,hs2,her]; exact hs.rretire hU2 T hs
 have e7:(o.kind % 18446744073709551616).tmod 8=6:=by rw [e7,hkk]; rfl
 have e4k:scal P (Go.convert 34 3 (.int .u64 6))=some (.val (.int .i64 6)):=e4 6 (by omega)
 have hd:doS l o=l:=by simp only [doS,hkk,← hie,← hje,← hse,← hte]; rw [if_neg (fun h=>h rfl)]
 refine KC_of (fun _=>rfl) rfl ?_
 simp [c13,resV,resP,b1,b2,b3,n1,n2,n3,d0,d0',d1,d1',d2,d2',z0,z1,z2,aPs,aRs,aPt,aRt,sP,sR,e3,e5w,e5o,e4w,e4o,e4k,e6,e7,l0,hpos,hi,hj,hii,hji,cP_set,cR_set,c1,c2]
 refine VA_inl rfl rfl ((fin _ _ hd.symm ⟨by simp [b1,n1,z0,d1,d2,d1',d2'],by simp [b2,n2,z1,d0,d0',d1,d1',d2,d2'],by simp [b3,n3,z2,d0,d0',d1,d1',d2,d2'],by simp [n1,z0],by simp [n2,z1],by simp [n3,z2]⟩).mono ?_)
 rintro v H' wl ⟨rfl,rfl,rfl,hpx⟩
 rw [hd] at hk
 simp
 exact hk _ _ (PX.pair (by repeat (first | exact hpx | refine PX.grow ?_)) d0) (by repeat (first | exact Kp.refl | refine Kp.grow ?_ | refine Kp.put ?_ (by omega)))
end Go.Evl.Zone

set_option maxRecDepth 100000
namespace Go.Evl.Zone
open Go Go.Evl Go.Evl.Fl
variable {P:Program}
theorem do6b_KC (T:TB P) {V:List Bytes} {l:List NS} {o:NOp} {p rP rR:Nat} {H:Heap} {i j:Nat} {s t:NS} (F:DoF P V l o p rP rR H i j s t) (hkk:idxN o.kind 8=6) (hij:¬ i=j) {K:PV→Heap→List Nat→Prop}
  (hk:∀ H' wl,PairAt H' p rP rR (doS l o)→Kp H H' p rP rR→K (bv true) H' wl):KC (env P) 13 [.ptr p 0,.agg (opC o)] H K:=by
 obtain ⟨hU2,hL2,hkid,f1,f2,f3,hpos,hle,hi,hj,hs,ht,hie,hje,hse,hte,T0,e3,e4,e5w,e5o,e4w,e4o,e7,e6,l0,b1,b2,b3,n1,n2,n3,d0,d0',d1,d1',d2,d2',z0,z1,z2,hii,hji,aPs,aRs,aPt,aRt,sP,sR,fin⟩:=F
 obtain ⟨s1,hs1⟩:∃ s1,s1=(retireS s t).1:=⟨_,rfl⟩
 obtain ⟨s2,hs2⟩:∃ s2,s2=(retireS s t).2.1:=⟨_,rfl⟩
 obtain ⟨er,her⟩:∃ er,er=(retireS s t).2.2:=⟨_,rfl⟩
 have c1:ans (env P) 14 [.agg (cP s),.agg (cP t)]=some (.tup [.agg (cP s1),.agg (cP s2),iv er]):=by rw [hs1,hs2,her]; exact hs.retire hU2 T ht
 have c2:ans (env P) 62 [.agg (cR s),.agg (cR t)]=some (.tup [.agg (cR s1),.agg (cR s2),iv er]):=by rw [hs1,hs2,her]; exact hs.rretire hU2 T ht
 have e7:(o.kind % 18446744073709551616).tmod 8=6:=by rw [e7,hkk]; rfl
 have e4k:scal P (Go.convert 34 3 (.int .u64 6))=some (.val (.int .i64 6)):=e4 6 (by omega)
 have hd:doS l o=(l.set i s1).set j s2:=by simp only [doS,hkk,← hie,← hje,← hse,← hte]; rw [if_pos hij,hs1,hs2]
 have hij':¬ (i:Int)=j:=by omega
 have q1:∀ H:Heap,storeR H (.row 13 ((l.map cP).set i (cP s1)) true) rP 13 l.length j 0 (cP s2)=some (H.put rP (.row 13 (((l.map cP).set i (cP s1)).set j (cP s2)) true),rP):=fun H=>by
  have:=storeN (f:=cP) cP_len (H:=H) (m:=l.set i s1) (r:=rP) (n:=l.length) (i:=j) (s:=s2) (by simp) hj
  simpa only [List.map_set] using this
 have q2:∀ H:Heap,storeR H (.row 13 ((l.map cR).set i (cR s1)) true) rR 13 l.length j 0 (cR s2)=some (H.put rR (.row 13 (((l.map cR).set i (cR s1)).set j (cR s2)) true),rR):=fun H=>by
  have:=storeN (f:=cR) cR_len (H:=H) (m:=l.set i s1) (r:=rR) (n:=l.length) (i:=j) (s:=s2) (by simp) hj
  simpa only [List.map_set] using this
 refine KC_of (fun _=>rfl) rfl ?_
 simp [c13,resV,resP,b1,b2,b3,n1,n2,n3,d0,d0',d1,d1',d2,d2',z0,z1,z2,aPs,aRs,aPt,aRt,sP,sR,e3,e5w,e5o,e4w,e4o,e4k,e6,e7,l0,hpos,hi,hj,hii,hji,cP_set,cR_set,c1,c2,hij',hij,q1,q2]
 refine VA_inl rfl rfl ((fin _ _ hd.symm ⟨by simp [b1,n1,z0,d1,d2,d1',d2'],by simp [b2,n2,z1,d0,d0',d1,d1',d2,d2'],by simp [b3,n3,z2,d0,d0',d1,d1',d2,d2'],by simp [n1,z0],by simp [n2,z1],by simp [n3,z2]⟩).mono ?_)
 rintro v H' wl ⟨rfl,rfl,rfl,hpx⟩
 rw [hd] at hk
 simp
 exact hk _ _ (PX.pair (by repeat (first | exact hpx | refine PX.grow ?_)) d0) (by repeat (first | exact Kp.refl | refine Kp.grow ?_ | refine Kp.put ?_ (by omega)))
end Go.Evl.Zone

set_option maxRecDepth 100000
namespace Go.Evl.Zone
open Go Go.Evl Go.Evl.Fl
variable {P:Program}
theorem do7_KC (T:TB P) {V:List Bytes} {l:List NS} {o:NOp} {p rP rR:Nat} {H:Heap} {i j:Nat} {s t:NS} (F:DoF P V l o p rP rR H i j s t) (hkk:idxN o.kind 8=7) {K:PV→Heap→List Nat→Prop}
  (hk:∀ H' wl,PairAt H' p rP rR (doS l o)→Kp H H' p rP rR→K (bv true) H' wl):KC (env P) 13 [.ptr p 0,.agg (opC o)] H K:=by
 obtain ⟨hU2,hL2,hkid,f1,f2,f3,hpos,hle,hi,hj,hs,ht,hie,hje,hse,hte,T0,e3,e4,e5w,e5o,e4w,e4o,e7,e6,l0,b1,b2,b3,n1,n2,n3,d0,d0',d1,d1',d2,d2',z0,z1,z2,hii,hji,aPs,aRs,aPt,aRt,sP,sR,fin⟩:=F
 obtain ⟨s1,hs1⟩:∃ s1,s1=(expelS s t.id).1:=⟨_,rfl⟩
 obtain ⟨er,her⟩:∃ er,er=(expelS s t.id).2:=⟨_,rfl⟩
 have c1:ans (env P) 63 [.agg (cP s),sv t.id]=some (.tup [.agg (cP s1),iv er]):=by rw [hs1,her]; exact hs.expel hU2 T ht.idU
 have c2:ans (env P) 64 [.agg (cR s),sv t.id]=some (.tup [.agg (cR s1),iv er]):=by rw [hs1,her]; exact hs.rexpel hU2 ht.idU
 have hd:doS l o=l.set i s1:=by simp only [doS,hkk,← hie,← hje,← hse,← hte,hs1]
 have e7:(o.kind % 18446744073709551616).tmod 8=7:=by rw [e7,hkk]; rfl
 have e4k:scal P (Go.convert 34 3 (.int .u64 7))=some (.val (.int .i64 7)):=e4 7 (by omega)
 have c3:loadR (.row 13 (l.map cR) true) rR 13 l.length j 0 1=some ([sv t.id],[rR]):=by
  rw [loadR_row ⟨rfl,by simp⟩,List.getElem?_map,atN_at hj,← hte]
  rfl
 refine KC_of (fun _=>rfl) rfl ?_
 simp [c13,resV,resP,b1,b2,b3,n1,n2,n3,d0,d0',d1,d1',d2,d2',z0,z1,z2,aPs,aRs,aPt,aRt,sP,sR,e3,e5w,e5o,e4w,e4o,e4k,e6,e7,l0,hpos,hi,hj,hii,hji,cP_set,cR_set,c1,c2,c3]
 refine VA_inl rfl rfl ((fin _ _ hd.symm ⟨by simp [b1,n1,z0,d1,d2,d1',d2'],by simp [b2,n2,z1,d0,d0',d1,d1',d2,d2'],by simp [b3,n3,z2,d0,d0',d1,d1',d2,d2'],by simp [n1,z0],by simp [n2,z1],by simp [n3,z2]⟩).mono ?_)
 rintro v H' wl ⟨rfl,rfl,rfl,hpx⟩
 rw [hd] at hk
 simp
 exact hk _ _ (PX.pair (by repeat (first | exact hpx | refine PX.grow ?_)) d0) (by repeat (first | exact Kp.refl | refine Kp.grow ?_ | refine Kp.put ?_ (by omega)))
end Go.Evl.Zone

set_option maxRecDepth 100000
namespace Go.Evl.Zone
open Go Go.Evl Go.Evl.Fl
variable {P:Program}
theorem do8_KC (T:TB P) {V:List Bytes} {l:List NS} {o:NOp} {p rP rR:Nat} {H:Heap} {i j:Nat} {s t:NS} (F:DoF P V l o p rP rR H i j s t) (hk3:idxN o.kind 8 < 3) {K:PV→Heap→List Nat→Prop}
  (hk:∀ H' wl,PairAt H' p rP rR (doS l o)→Kp H H' p rP rR→K (bv true) H' wl):KC (env P) 13 [.ptr p 0,.agg (opC o)] H K:=by
 obtain ⟨hU2,hL2,hkid,f1,f2,f3,hpos,hle,hi,hj,hs,ht,hie,hje,hse,hte,T0,e3,e4,e5w,e5o,e4w,e4o,e7,e6,l0,b1,b2,b3,n1,n2,n3,d0,d0',d1,d1',d2,d2',z0,z1,z2,hii,hji,aPs,aRs,aPt,aRt,sP,sR,fin⟩:=F
 obtain ⟨s1,hs1⟩:∃ s1,s1=(writeS s o.key o.x o.y o.text).1:=⟨_,rfl⟩
 obtain ⟨er,her⟩:∃ er,er=(writeS s o.key o.x o.y o.text).2:=⟨_,rfl⟩
 have c1:ans (env P) 17 [.agg (cP s),iv o.key,cw o.x o.y,sv o.text]=some (.tup [.agg (cP s1),iv er]):=by rw [hs1,her]; exact hs.write hU2 T f1 f2
 have c2:ans (env P) 66 [.agg (cR s),iv o.key,.agg [iv o.x,iv o.y],sv o.text]=some (.tup [.agg (cR s1),iv er]):=by rw [hs1,her]; exact hs.rwrite hU2 T f1 f2
 have c3:ans (env P) 65 [.agg [iv o.x,iv o.y]]=some (cw o.x o.y):=spot_ans T0
 obtain ⟨wa,wb,hcx⟩:∃ a b,cw o.x o.y = .val (.complex .f64 a b):=⟨_,_,rfl⟩
 rw [hcx] at c1 c3
 have y3:¬ ((idxN o.kind 8:Nat):Int)=3:=by omega
 have y4:¬ ((idxN o.kind 8:Nat):Int)=4:=by omega
 have y5:¬ ((idxN o.kind 8:Nat):Int)=5:=by omega
 have y6:¬ ((idxN o.kind 8:Nat):Int)=6:=by omega
 have y7:¬ ((idxN o.kind 8:Nat):Int)=7:=by omega
 have x3:¬ idxN o.kind 8=3:=by omega
 have x4:¬ idxN o.kind 8=4:=by omega
 have x5:¬ idxN o.kind 8=5:=by omega
 have x6:¬ idxN o.kind 8=6:=by omega
 have x7:¬ idxN o.kind 8=7:=by omega
 have e4k:=e4 (idxN o.kind 8) (by omega)
 have hd:doS l o=l.set i s1:=by
  unfold doS
  simp only [← hie,← hje,← hse,← hte]
  rw [hs1]
  all_goals
   split
   all_goals first
    | (exfalso; omega)
    | rfl
 generalize idxN o.kind 8=kd at e7 e4k x3 x4 x5 x6 x7 y3 y4 y5 y6 y7
 refine KC_of (fun _=>rfl) rfl ?_
 simp [c13,resV,resP,b1,b2,b3,n1,n2,n3,d0,d0',d1,d1',d2,d2',z0,z1,z2,aPs,aRs,aPt,aRt,sP,sR,e3,e5w,e5o,e4w,e4o,e4k,e6,e7,l0,hpos,hi,hj,hii,hji,cP_set,cR_set,c1,c2,c3,x3,x4,x5,x6,x7,y3,y4,y5,y6,y7]
 refine VA_inl rfl rfl ((fin _ _ hd.symm ⟨by simp [b1,n1,z0,d1,d2,d1',d2'],by simp [b2,n2,z1,d0,d0',d1,d1',d2,d2'],by simp [b3,n3,z2,d0,d0',d1,d1',d2,d2'],by simp [n1,z0],by simp [n2,z1],by simp [n3,z2]⟩).mono ?_)
 rintro v H' wl ⟨rfl,rfl,rfl,hpx⟩
 rw [hd] at hk
 simp
 exact hk _ _ (PX.pair (by repeat (first | exact hpx | refine PX.grow ?_)) d0) (by repeat (first | exact Kp.refl | refine Kp.grow ?_ | refine Kp.put ?_ (by omega)))
end Go.Evl.Zone

set_option maxRecDepth 100000
namespace Go.Evl.Zone
open Go Go.Evl Go.Evl.Fl
variable {P:Program}
theorem pDo_KC {U:List Bytes} (hU:UOK U) (T:TB P) {l:List NS} (hl:LI U l) (hn:U.length < 1000) {o:NOp} (ho:fewO o=true) {p rP rR:Nat} {H:Heap} (hp:PairAt H p rP rR l) {K:PV→Heap→List Nat→Prop}
  (hk:∀ H' wl,PairAt H' p rP rR (doS l o)→Kp H H' p rP rR→K (bv true) H' wl):KC (env P) 13 [.ptr p 0,.agg (opC o)] H K:=by
 obtain ⟨V,i,j,s,t,F⟩:=DoF.of (P:=P) hU T hl hn ho hp
 have:=idxN_lt (a:=o.kind) (n:=8) (by omega)
 obtain hkk | hkk | hkk | hkk | hkk | hkk:idxN o.kind 8=3∨idxN o.kind 8=4∨idxN o.kind 8=5∨idxN o.kind 8=6∨idxN o.kind 8=7∨idxN o.kind 8 < 3:=by omega
 ·exact do3_KC T F hkk hk
 ·exact do4_KC T F ho hkk hk
 ·by_cases h8:l.length < 8
  ·by_cases h0:(childS s).2.2=0
   ·exact do5_KC T F hkk h8 h0 hk
   ·exact do5b_KC T F hkk h8 h0 hk
  ·exact do5c_KC T F hkk h8 hk
 ·by_cases hij:i=j
  ·exact do6_KC T F hkk hij hk
  ·exact do6b_KC T F hkk hij hk
 ·exact do7_KC T F hkk hk
 ·exact do8_KC T F hkk hk
end Go.Evl.Zone

namespace Go.Evl.Zone
open Go Go.Evl Go.Evl.Fl
variable {P:Program}
end Go.Evl.Zone

namespace Go.Evl.Zone
open Go Go.Evl Go.Evl.Fl
abbrev id0:Bytes:=[48]
def kn0:Nat→List KRow
 | 0=>[]
 | n+1=>[⟨id0,((n+1:Nat):Int),[]⟩]
def rw0:Nat→List MRow
 | 0=>[]
 | n+1=>[⟨id0,[⟨id0,((n+1:Nat):Int)⟩]⟩]
def na (n:Nat) (l:List Item):NS:=⟨id0,0,0,(n:Int),(n:Int),kn0 n,[],[],l,all1,[id0],[],rw0 n⟩
structure AI (n:Nat) (l:List Item) (tx:List Bytes) (th:List Bool):Prop where
 srt:Srt cmpI Item.key l
 key:∀ x∈l,0≤x.key∧x.key≤31
 stamp:∀ x∈l,x.stamp≤n
 near:∀ x∈l,(-1000≤x.x∧x.x≤1000)∧(-1000≤x.y∧x.y≤1000)
 held:∀ x∈l,x.dead=false→x.held=true
 len:l.length≤n
 ltx:tx.length=32
 lth:th.length=32
 is:∀ k:Nat,k < 32→tx[k]?=some (match getA Item.key l k with | some x=>if x.dead=true then [] else x.text | none=>[])∧th[k]?=some (match getA Item.key l k with | some x=>!x.dead | none=>false)
theorem len_put {α κ:Type} {cmp:κ→κ→Int} {key:α→κ} (x:α):∀ l:List α,(putA cmp key x l).length≤l.length+1
 | []=>by simp [putA]
 | b::l=>by
   have:=len_put (cmp:=cmp) (key:=key) x l
   unfold putA
   split
   ·simp; omega
   ·split <;> simp
theorem AI.put {n:Nat} {l:List Item} {tx:List Bytes} {th:List Bool} (h:AI n l tx th) {x:Item} (hs:x.stamp=n+1):putI l x=(putA cmpI Item.key x l,true):=by
 unfold putI
 cases hg:getA Item.key l x.key with
 | none=>rfl
 | some o =>
   have ho:=h.stamp o (get_mem hg).1
   have e1:sameVer o x=false:=by simp [sameVer]; omega
   have e2:newer o x=false:=by
    unfold newer
    rw [if_pos (by omega)]
    simp; omega
   simp [yieldsI,e1,e2]
theorem AI.step {n:Nat} {l:List Item} {tx:List Bytes} {th:List Bool} (h:AI n l tx th) {x:Item} {k:Nat} (hk:k < 32) (hx:x.key=k) (hs:x.stamp=n+1) (hn:(-1000≤x.x∧x.x≤1000)∧(-1000≤x.y∧x.y≤1000)) (hd:x.dead=false→x.held=true):AI (n+1) (putA cmpI Item.key x l) (tx.set k (if x.dead=true then [] else x.text)) (th.set k (!x.dead)) where
 srt:=srt_put cmpI_ok h.srt
 key:=fun y hy=>by
  rcases (mem_put cmpI_ok h.srt).1 hy with rfl | ⟨hy,_⟩
  ·omega
  ·exact h.key y hy
 stamp:=fun y hy=>by
  rcases (mem_put cmpI_ok h.srt).1 hy with rfl | ⟨hy,_⟩
  ·omega
  ·have:=h.stamp y hy; omega
 near:=fun y hy=>by
  rcases (mem_put cmpI_ok h.srt).1 hy with rfl | ⟨hy,_⟩
  ·exact hn
  ·exact h.near y hy
 held:=fun y hy=>by
  rcases (mem_put cmpI_ok h.srt).1 hy with rfl | ⟨hy,_⟩
  ·exact hd
  ·exact h.held y hy
 len:=by have:=len_put (cmp:=cmpI) (key:=Item.key) x l; have:=h.len; omega
 ltx:=by simp [h.ltx]
 lth:=by simp [h.lth]
 is:=fun j hj=>by
  have hi:=h.is j hj
  rw [get_put cmpI_ok h.srt]
  by_cases e:k=j
  ·subst e
   rw [if_pos hx]
   simp [h.ltx,h.lth,hk]
  ·have e':¬ x.key=(j:Int):=by omega
   rw [if_neg e',List.getElem?_set_ne e,List.getElem?_set_ne e]
   exact hi
end Go.Evl.Zone

namespace Go.Evl.Zone
open Go Go.Evl Go.Evl.Fl
variable {P:Program}
section
variable {n:Nat} {l:List Item} {tx:List Bytes} {th:List Bool}
theorem AI.same (h:AI n l tx th) {k:Nat} (hk:k < 32) (ht:th[k]?=some false):AI n l (tx.set k []) (th.set k false) where
 srt:=h.srt
 key:=h.key
 stamp:=h.stamp
 near:=h.near
 held:=h.held
 len:=h.len
 ltx:=by simp [h.ltx]
 lth:=by simp [h.lth]
 is:=fun j hj=>by
  have hi:=h.is j hj
  by_cases e:k=j
  ·subst e
   rw [ht] at hi
   rw [List.getElem?_set_self (by rw [h.ltx]; exact hk),List.getElem?_set_self (by rw [h.lth]; exact hk)]
   cases hg:getA Item.key l (k:Int) with
   | none=>simp
   | some x =>
     rw [hg] at hi
     have hd:x.dead=true:=by simpa using hi.2
     simp [hd]
  ·rw [List.getElem?_set_ne e,List.getElem?_set_ne e]
   exact hi
end
end Go.Evl.Zone

namespace Go.Evl.Zone
open Go Go.Evl Go.Evl.Fl
variable {P:Program}
def opsV (l:List NOp):List (List PV):=l.map opC
@[simp] theorem opsV_len (l:List NOp):(opsV l).length=l.length:=by simp [opsV]
@[simp] theorem allLen_opC:∀ l:List NOp,allLen 8 (opsV l)=true
 | []=>rfl
 | q::l=>by
   have:=allLen_opC l
   simp_all [allLen,opsV]
end Go.Evl.Zone

namespace Go.Evl.Zone
open Go Go.Evl Go.Evl.Fl
variable {P:Program}
structure NCB (P:Program):Prop where
 told:ans (env P) 10 []=some (bv true)
 pR:ans (env P) 56 []=some (.agg (nsP rootN))
 rR:ans (env P) 57 []=some (.agg (nsR rootN))
structure DI (H:Heap) (p:Nat) (n:Nat) (l:List NS):Prop where
 pa:∃ rP rR,PairAt H p rP rR l
 li:∃ U,UOK U∧LI U l∧U.length≤n+1
theorem DI.gr {H H':Heap} {p n:Nat} {l:List NS} (h:DI H p n l) (g:Gr H H'):DI H' p n l :=
 ⟨let ⟨rP,rR,q⟩:=h.pa; ⟨rP,rR,q.gr g⟩,h.li⟩
theorem DI.grow {H:Heap} {p n m:Nat} {l:List NS} (h:DI H p n l):DI (H.grow m) p n l:=h.gr (Gr.grow Gr.refl)
theorem begin_KC (C:NCB P) {H:Heap} {K:PV→Heap→List Nat→Prop}
  (hk:∀ H' wl p,Gr H H'→H.n≤p→DI H' p 0 [rootN]→K (.ptr p 0) H' wl):KC (env P) 9 [] H K:=by
 have c1:ans (env P) 56 []=some (.agg (cP rootN)):=C.pR
 have c2:ans (env P) 57 []=some (.agg (cR rootN)):=C.rR
 have k1:=chunk13 (cP_len rootN)
 have k2:=chunk13 (cR_len rootN)
 have s1:=fun {c:List PV} (h:c.length=13)=>cP_set rootN h
 have s2:=fun {c:List PV} (h:c.length=13)=>cR_set rootN h
 refine KC_of (fun _=>rfl) rfl ?_
 simp [c9,resV,resP,c1,c2,k1,k2,s1,s2]
 refine hk _ _ _ ?_ (by omega) ⟨⟨H.n,H.n+1,?_⟩,⟨[[48]],root_UOK,root_LI,by simp⟩⟩
 ·exact (((Gr.refl (H:=H)).grow.put (Nat.le_refl _)).put (by omega)).put (by omega)
 ·refine PX.pair ⟨?_,?_,?_,?_,?_,?_⟩ (by omega)
  all_goals simp [cP_set,cR_set]
theorem do_KC (T:TB P) {p n:Nat} {l:List NS} {H:Heap} (h:DI H p n l) (hn:n < 900) {o:NOp} (ho:fewO o=true) {K:PV→Heap→List Nat→Prop}
  (hk:∀ H' wl,DI H' p (n+1) (doS l o)→(H.n≤H'.n∧∀ i cs,i≠p→i < H.n→H.at_ i = .box cs→H'.at_ i = .box cs)→K (bv true) H' wl):KC (env P) 13 [.ptr p 0,.agg (opC o)] H K:=by
 obtain ⟨rP,rR,hp⟩:=h.pa
 obtain ⟨U,hU,hl,hu⟩:=h.li
 obtain ⟨hU2,hlen,_,_⟩:=hl.doU hU (o:=o) (by omega)
 exact pDo_KC hU T hl (by omega) ho hp fun H' wl h' hkp=>hk H' wl ⟨⟨rP,rR,h'⟩,⟨doU U l o,hU2,hl.doS hU ho (by omega),by omega⟩⟩ ⟨hkp.n,fun i cs h1 h2 h3=>by
  rw [hkp.at_ i h2 h1 (fun e=>by rw [e,hp.rowP] at h3; cases h3) (fun e=>by rw [e,hp.rowR] at h3; cases h3),h3]⟩
theorem opsV_at {l:List NOp} {i:Nat} {o:NOp} (hq:l[i]?=some o):∀ h:i < (opsV l).length,(opsV l)[i]'h=opC o:=fun h=>Option.some.inj (by rw [← List.getElem?_eq_getElem h]; simp [opsV,hq])
theorem acts_loop (T:TB P) (C:NCB P) {ops:List NOp} {p:Nat} {ks:List Fr'} {K:Ex→St→Prop}:∀ (rest:List NOp) (i:Nat) (l:List NS) (st:St),ops.drop i=rest→i≤ops.length→i≤40→DI st.h p i l→st.σ 0 = .im (opsV ops) false→st.σ 3 = .ptr p 0→st.σ 4=iv i →
  (∀ st' i l,DI st'.h p i l→st'.σ 0 = .im (opsV ops) false→st'.σ 3 = .ptr p 0→VN (env P) 3 st' ks K)→(∀ st',st'.σ 2=bv true→K .ret st')→V (env P) 3 (.loop L3_0) st (.blk 0::ks) K
 | [],i,l,st,hr,hile,hi,hD,h0,h3,h4,hend,hret=>by
   obtain ⟨hii,hlt,hd⟩:=drop_nil hr hile
   rw [V_loop]
   simp [L3_0,h0,h4,hlt]
   exact hend _ i l (by repeat (first | exact hD | refine DI.grow ?_)) (by simp [h0]) (by simp [h3])
 | o::rest,i,l,st,hr,hile,hi,hD,h0,h3,h4,hend,hret=>by
   obtain ⟨hq,hlt,hr',_⟩:=drop_cons hr
   have hc:=opsV_at hq
   have hw:=wrapS (i:=i) (by omega)
   have kf:=few11_ans (P:=P) (o:=o)
   rw [V_loop]
   by_cases h40:(i:Int) < 40
   ·cases hf:fewO o with
    | false =>
      rw [hf] at kf
      simp only [opC] at kf
      simp [L3_0,h0,h3,h4,hlt,h40,hc,kf]
      exact hret _ (by simp)
    | true =>
      rw [hf] at kf
      simp only [opC] at kf
      simp [L3_0,h0,h3,h4,hlt,h40,hc,kf]
      refine VA_keep rfl rfl (do_KC (p:=p) (n:=i) (l:=l) T (by repeat (first | exact hD | refine DI.grow ?_)) (by omega) hf fun H' wl hD' _=>?_)
      simp [h0,h3,h4,hw]
      exact acts_loop T C rest (i+1) (doS l o) _ hr' (by omega) (by omega) (by repeat (first | exact hD' | refine DI.grow ?_)) (by simp [h0]) (by simp [h3]) (by simp) hend hret
   ·simp [L3_0,h0,h4,hlt,h40]
    exact hend _ i l (by repeat (first | exact hD | refine DI.grow ?_)) (by simp [h0]) (by simp [h3])
theorem acts_ans (T:TB P) (C:NCB P) (ops:List NOp):ans (env P) 3 [.im (opsV ops) false]=some (bv true):=by
 have kt:=C.told
 refine ans_V rfl rfl ?_
 simp [c3]
 refine VA_keep rfl rfl (begin_KC C fun H' wl p hG _ hD=>?_)
 simp [kt]
 obtain ⟨rP,rR,hp⟩:=hD.pa
 obtain ⟨U,hU,hl,hu⟩:=hD.li
 refine VA_inl rfl rfl (pSame_IC hU T.toTI hl.wn hl.le (hp.gr (by repeat (first | exact Gr.refl | refine Gr.grow ?_))) ?_)
 simp
 refine acts_loop (p:=p) T C ops 0 [rootN] _ rfl (by omega) (by omega) (by repeat (first | exact hD | refine DI.grow ?_)) (by simp) (by simp) (by simp) ?_ ?_
 ·intro st' i l hD h0 h3
  simp
 ·intro st' h
  simp [h]
end Go.Evl.Zone
