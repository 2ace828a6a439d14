/- The evaluator's texts CEnc to CM7, joined. -/
import Derived.Test.YtjpbnkiifhfofaaGreatEv4
set_option maxHeartbeats 1000000
set_option linter.all false
set_option linter.deprecated false
set_option linter.unusedVariables false
set_option linter.unusedSimpArgs false
set_option linter.unnecessarySimpa false
namespace Go.Evl.Zone
open Go Go.Evl
variable {P:Program}
abbrev Bytes:=List UInt8
abbrev iv (n:Int):PV:=.val (.int .i64 n)
abbrev bv (b:Bool):PV:=.val (.bool b)
class Enc (α:Type) where
 c:α→List PV
 k:Nat
 len:∀ a,(c a).length=k
 pl:∀ a,plains (c a)=some (c a)
def En {α:Type} [Enc α] (l:List α):List (List PV):=l.map Enc.c
abbrev lv {α:Type} [Enc α] (l:List α):PV:=.im (En l) false
section
variable {α:Type} [Enc α]
@[simp] theorem En_length (l:List α):(En l).length=l.length:=by simp [En]
@[simp] theorem En_nil:En ([]:List α)=[]:=rfl
theorem En_cons (a:α) (l:List α):En (a::l)=Enc.c a::En l:=rfl
theorem En_append (a b:List α):En (a++b)=En a++En b:=by simp [En]
theorem En_one (a:α):En [a]=[Enc.c a]:=rfl
@[simp] theorem allLen_En {k:Nat} (h:Enc.k α=k) (l:List α):allLen k (En l)=true:=by
 rw [allLen_iff]
 intro x hx
 simp only [En,List.mem_map] at hx
 obtain ⟨a,_,rfl⟩:=hx
 rw [Enc.len,h]
theorem plainss_En (l:List α):plainss (En l)=some (En l):=plainss_ok fun y hy=>by
 simp only [En,List.mem_map] at hy
 obtain ⟨a,_,rfl⟩:=hy
 exact Enc.pl a
theorem En_at {l:List α} {i:Nat} {q:α} (h:l[i]?=some q):∀ hi,(En l)[i]'hi=Enc.c q:=fun hi=>by
 have h2:=(List.getElem?_eq_some_iff.1 h).2
 simp only [En,List.getElem_map,h2]
theorem En_at? {l:List α} {i:Nat} {q:α} (h:l[i]?=some q):(En l)[i]?=some (Enc.c q):=by simp [En,h]
theorem En_take (l:List α) (n:Nat):(En l).take n=En (l.take n):=by simp [En,List.map_take]
theorem En_drop (l:List α) (n:Nat):(En l).drop n=En (l.drop n):=by simp [En,List.map_drop]
end
instance:Enc Int:=⟨fun n=>[iv n],1,fun _=>rfl,fun _=>rfl⟩
instance:Enc UInt8:=⟨fun b=>[.val (.int .u8 (b.toNat:Int))],1,fun _=>rfl,fun _=>rfl⟩
instance:Enc Bytes:=⟨fun s=>[sv s],1,fun _=>rfl,fun _=>rfl⟩
@[simp] theorem Enc_Int (n:Int):Enc.c n=[iv n]:=rfl
@[simp] theorem Enc_u8 (b:UInt8):Enc.c b=[.val (.int .u8 (b.toNat:Int))]:=rfl
@[simp] theorem Enc_Bytes (s:Bytes):Enc.c s=[sv s]:=rfl
@[simp] theorem Enc_kInt:Enc.k Int=1:=rfl
@[simp] theorem Enc_ku8:Enc.k UInt8=1:=rfl
@[simp] theorem Enc_kBytes:Enc.k Bytes=1:=rfl
theorem bytesC_En (s:Bytes):bytesC ⟨s.toArray⟩=En s:=by simp [bytesC,En]
theorem get_at {α:Type} {l:List α} {i:Nat} {q:α} (h:l[i]?=some q):∀ hi,l[i]'hi=q:=fun _=>(List.getElem?_eq_some_iff.1 h).2
end Go.Evl.Zone

namespace Go.Evl.Zone
open Go Go.Evl
variable {P:Program}
def dig19 (b:UInt8):Bool:=decide (49≤b.toNat) && decide (b.toNat≤57)
def idR:Bytes→Bool
 | []=>false
 | b::r=>decide (r.length≤5) && decide (b.toNat=48) && r.all dig19
theorem loop_r1Right {s:Bytes} {ks:List Fr'} {K:Ex→St→Prop} (hs:s.length≤6):∀ (rest:Bytes) (i:Nat) (st:St),s.drop i=rest→i≤s.length→st.σ 0=sv s→st.σ 3=iv i →
  (∀ st',rest.all dig19=false→st'.σ 2=bv false→K .ret st')→(∀ st',rest.all dig19=true→VN (env P) 165 st' ks K)→V (env P) 165 (.loop L165_0) st (.blk 0::ks) K
 | [],i,st,hr,hi,h0,h3,hret,hend=>by
   obtain ⟨hii,hlt,ht⟩:=drop_nil hr hi
   rw [V_loop]
   simp [L165_0,h0,h3,sv_size,hlt]
   exact hend _ rfl
 | b::rest,i,st,hr,hi,h0,h3,hret,hend=>by
   obtain ⟨hq,hlt,hr',ht⟩:=drop_cons hr
   have hix:=get_at hq
   have hw:=wrapS (i:=i) (by omega)
   rw [V_loop]
   by_cases lo:b.toNat < 49
   ·have lo':(b.toNat:Int) < 49:=by omega
    simp [L165_0,h0,h3,sv_size,hlt,hq,hix,lo,lo']
    exact hret _ (by simp [dig19]; omega) (by simp)
   ·have lo':¬ (b.toNat:Int) < 49:=by omega
    by_cases up:57 < b.toNat
    ·have up':(57:Int) < (b.toNat:Int):=by omega
     simp [L165_0,h0,h3,sv_size,hlt,hq,hix,lo,lo',up,up']
     exact hret _ (by simp [dig19]; omega) (by simp)
    ·have up':¬ (57:Int) < (b.toNat:Int):=by omega
     have hd:dig19 b=true:=by simp [dig19]; omega
     simp only [List.all_cons,hd,Bool.true_and] at hret hend
     simp [L165_0,h0,h3,sv_size,hlt,hq,hix,lo,lo',up,up',hw]
     exact loop_r1Right hs rest (i+1) _ hr' (by omega) (by simp [h0]) (by simp) hret hend
theorem r1Right_ans {s:Bytes}:ans (env P) 165 [sv s]=some (bv (idR s)):=by
 refine ans_V rfl rfl ?_
 cases s with
 | nil=>simp [c165,sv_size,idR]
 | cons b r =>
   have h1:¬ ((r.length:Int)+1 < 1):=by omega
   by_cases h2:5 < r.length
   ·have h2':(6:Int) < (r.length:Int)+1:=by omega
    have h3:¬ r.length≤5:=by omega
    simp [c165,sv_size,idR,h1,h2',h3]
   ·have h2':¬ (6:Int) < (r.length:Int)+1:=by omega
    have h3:r.length≤5:=by omega
    by_cases h4:b.toNat=48
    ·have h4':(b.toNat:Int)=48:=by omega
     simp [c165,sv_size,h1,h2',h4']
     refine loop_r1Right (s:=b::r) (by simp; omega) r 1 _ rfl (by simp) (by simp) (by simp) ?_ ?_
     ·intro st' ha h; simp [h,idR,ha]
     ·intro st' ha; simp [idR,ha,h3,h4]
    ·have h4':¬ (b.toNat:Int)=48:=by omega
     simp [c165,sv_size,h1,h2',h4',idR,h4]
theorem hasPrefix_ans {a b:Bytes}:ans (env P) 127 [sv a,sv b]=some (bv (decide (b <+: a))):=by
 have h:ans (env P) 176 [sv a,sv b]=some (bv (decide (b <+: a))):=by
  refine ans_V rfl rfl ?_
  have he:=fun t cx cy=>evBin_seql (P:=P) (t:=t) (cx:=cx) (cy:=cy) (a.take b.length) b
  by_cases hl:b.length≤a.length
  ·have hl':(b.length:Int)≤(a.length:Int):=by omega
   have hsl:∀ H,sliceP H 0 (sv a) none (some b.length) none=some (sv (a.take b.length),[]):=fun H=>sv_slice (H:=H) (a:=0) (b:=b.length) (by omega) hl
   have hp:b <+: a↔a.take b.length=b:=⟨fun h=>(List.prefix_iff_eq_take.1 h).symm,fun h=>List.prefix_iff_eq_take.2 h.symm⟩
   simp [c176,sv_size,hl',hl,hsl,he,hp]
  ·have hl':¬ (b.length:Int)≤(a.length:Int):=by omega
   have hp:¬ b <+: a:=fun h=>hl h.length_le
   simp [c176,sv_size,hl',hl,hp]
 refine ans_V rfl rfl ?_
 simp [c127,h]
theorem loop_idRight {s:Bytes} {ks:List Fr'} {K:Ex→St→Prop} (hs:s.length≤6):∀ (rest:Bytes) (i:Nat) (st:St),s.drop i=rest→i≤s.length→st.σ 15 = .im (En s) false→st.σ 16=iv s.length→st.σ 17=iv i →
  (∀ st',rest.all dig19=false→st'.σ 2=bv false→K .ret st')→(∀ st',rest.all dig19=true→VN (env P) 53 st' ks K)→V (env P) 53 (.loop L53_0) st (.blk 0::ks) K
 | [],i,st,hr,hi,h0,h16,h3,hret,hend=>by
   obtain ⟨hii,hlt,ht⟩:=drop_nil hr hi
   rw [V_loop]
   simp [L53_0,h0,h16,h3,hlt]
   exact hend _ rfl
 | b::rest,i,st,hr,hi,h0,h16,h3,hret,hend=>by
   obtain ⟨hq,hlt,hr',ht⟩:=drop_cons hr
   have hix:=En_at hq
   have hw:=wrapS (i:=i) (by omega)
   rw [V_loop]
   by_cases lo:b.toNat≤48
   ·have lo':(b.toNat:Int)≤48:=by omega
    simp [L53_0,h0,h16,h3,hlt,hix,lo,lo']
    exact hret _ (by simp [dig19]; omega) (by simp)
   ·have lo':¬ (b.toNat:Int)≤48:=by omega
    by_cases up:57 < b.toNat
    ·have up':(57:Int) < (b.toNat:Int):=by omega
     simp [L53_0,h0,h16,h3,hlt,hix,lo,lo',up,up']
     exact hret _ (by simp [dig19]; omega) (by simp)
    ·have up':¬ (57:Int) < (b.toNat:Int):=by omega
     have hd:dig19 b=true:=by simp [dig19]; omega
     simp only [List.all_cons,hd,Bool.true_and] at hret hend
     simp [L53_0,h0,h16,h3,hlt,hix,lo,lo',up,up',hw]
     exact loop_idRight hs rest (i+1) _ hr' (by omega) (by simp [h0]) (by simp [h16]) (by simp) hret hend
theorem idRight_ans {s:Bytes}:ans (env P) 53 [sv s]=some (bv (idR s)):=by
 refine ans_V rfl rfl ?_
 have hp:=hasPrefix_ans (P:=P) (a:=s) (b:=[48])
 cases s with
 | nil=>simp at hp; simp [c53,sv_size,idR,hp]
 | cons b r =>
   by_cases h4:b=48
   ·subst h4
    simp at hp
    by_cases h2:5 < r.length
    ·have h2':(6:Int) < (r.length:Int)+1:=by omega
     have h3:¬ r.length≤5:=by omega
     simp [c53,sv_size,idR,hp,h2',h3]
    ·have h2':¬ (6:Int) < (r.length:Int)+1:=by omega
     have h3:r.length≤5:=by omega
     have hsl:∀ H,sliceP H 0 (sv (48::r)) (some 1) none none=some (sv r,[]):=by
      intro H
      have e:=sv_slice (H:=H) (l:=48::r) (a:=1) (b:=r.length+1) (by omega) (by simp)
      simp only [List.drop_succ_cons,List.drop_zero,Nat.add_sub_cancel,List.take_length] at e
      exact e
     simp [c53,sv_size,hp,h2',hsl,bytesC_En]
     refine loop_idRight (s:=r) (by omega) r 0 _ rfl (by simp) (by simp [bytesC_En]) (by simp) (by simp) ?_ ?_
     ·intro st' ha h; simp [h,idR,ha]
     ·intro st' ha; simp [idR,ha,h3]
   ·have h4':¬ b.toNat=48:=fun e=>h4 (UInt8.toNat_inj.1 e)
    have hp':¬ 48=b:=fun e=>h4 e.symm
    simp [hp'] at hp
    simp [c53,sv_size,idR,hp,h4']
abbrev cmpB (a b:Bytes):Int:=Lib.compareBytes a b
theorem cmp_self:∀ a:Bytes,cmpB a a=0
 | []=>rfl
 | a::as1=>by
   have:¬ a < a:=fun h=>by have:=UInt8.lt_iff_toNat_lt.1 h; omega
   simp only [cmpB,Lib.compareBytes,if_neg this]
   exact cmp_self as1
theorem idCompare_ans {a b:Bytes}:ans (env P) 92 [sv a,sv b]=some (iv (cmpB a b)):=by
 refine ans_V rfl rfl ?_
 have hp:=fun {dst:Option Nat} {rest:List CI} {i slot slot':Nat} {log:Log} {d:Dr} {K:Ex→St→Prop} {st:St} {ks:List Fr'} {xs:List O}=>VA_prim (E:=env P) (f:=92) (g:=158) (p:=pCompare) (dst:=dst) (rest:=rest) (i:=i) (slot:=slot) (slot':=slot') (log:=log) (d:=d) (K:=K) (st:=st) (ks:=ks) (xs:=xs) rfl
 simp [c92,hp,pCompare]
def big:Nat:=9223372036854775807
theorem loop_cmp {s t:Bytes} {ks:List Fr'} {K:Ex→St→Prop} (hs:s.length≤big) (ht:t.length≤big):∀ (rest:Bytes) (i:Nat) (st:St),s.drop i=rest→i≤s.length→i≤t.length→st.σ 0=sv s→st.σ 1=sv t→st.σ 5=iv i →
  (∀ st',st'.σ 4=iv (cmpB rest (t.drop i))→K .ret st')→(∀ st',st'.σ 0=sv s→st'.σ 1=sv t→cmpB rest (t.drop i)=(if s.length < t.length then -1 else if t.length < s.length then 1 else 0)→VN (env P) 106 st' ks K)→V (env P) 106 (.loop L106_0) st (.blk 0::ks) K
 | [],i,st,hr,hi,hj,h0,h1,h5,hret,hend=>by
   obtain ⟨hii,hlt,hd⟩:=drop_nil hr hi
   rw [V_loop]
   simp [L106_0,h0,h1,h5,sv_size,hlt]
   refine hend _ (by simp [h0]) (by simp [h1]) ?_
   by_cases h:i=t.length
   ·rw [List.drop_eq_nil_of_le (by omega),if_neg (by omega),if_neg (by omega)]; rfl
   ·rw [if_pos (by omega),List.drop_eq_getElem_cons (by omega)]; rfl
 | b::rest,i,st,hr,hi,hj,h0,h1,h5,hret,hend=>by
   obtain ⟨hq,hlt,hr',_⟩:=drop_cons hr
   have hix:=get_at hq
   have hw:=wrapS (i:=i) (by unfold big at hs; omega)
   rw [V_loop]
   by_cases h:i=t.length
   ·have hlt':¬ i < t.length:=by omega
    simp [L106_0,h0,h1,h5,sv_size,hlt,hlt']
    refine hend _ (by simp [h0]) (by simp [h1]) ?_
    rw [List.drop_eq_nil_of_le (by omega),if_neg (by omega),if_pos (by omega)]; rfl
   ·have hlt':i < t.length:=by omega
    have hdr:t.drop i=t[i]::t.drop (i+1):=List.drop_eq_getElem_cons hlt'
    have htq:t[i]?=some t[i]:=List.getElem?_eq_getElem hlt'
    rw [hdr] at hret hend
    generalize t[i]=c at *
    have hix':=get_at htq
    by_cases lo:b.toNat < c.toNat
    ·have lo':(b.toNat:Int) < (c.toNat:Int):=by omega
     have lo2:b < c:=UInt8.lt_iff_toNat_lt.2 lo
     simp [L106_0,h0,h1,h5,sv_size,hlt,hlt',hq,htq,hix,hix',lo,lo']
     exact hret _ (by simp [cmpB,Lib.compareBytes,lo2])
    ·have lo':¬ (b.toNat:Int) < (c.toNat:Int):=by omega
     have lo2:¬ b < c:=fun x=>lo (UInt8.lt_iff_toNat_lt.1 x)
     by_cases up:c.toNat < b.toNat
     ·have up':(c.toNat:Int) < (b.toNat:Int):=by omega
      have up2:c < b:=UInt8.lt_iff_toNat_lt.2 up
      simp [L106_0,h0,h1,h5,sv_size,hlt,hlt',hq,htq,hix,hix',lo,lo',up,up']
      exact hret _ (by simp [cmpB,Lib.compareBytes,lo2,up2])
     ·have up':¬ (c.toNat:Int) < (b.toNat:Int):=by omega
      have up2:¬ c < b:=fun x=>up (UInt8.lt_iff_toNat_lt.1 x)
      have e:cmpB (b::rest) (c::t.drop (i+1))=cmpB rest (t.drop (i+1)):=by simp [cmpB,Lib.compareBytes,lo2,up2]
      rw [e] at hret hend
      simp [L106_0,h0,h1,h5,sv_size,hlt,hlt',hq,htq,hix,hix',lo,lo',up,up',hw]
      exact loop_cmp hs ht rest (i+1) _ hr' (by omega) (by omega) (by simp [h0]) (by simp [h1]) (by simp) hret hend
theorem r1Compare_ans {s t:Bytes} (hs:s.length≤big) (ht:t.length≤big):ans (env P) 106 [sv s,sv t]=some (iv (cmpB s t)):=by
 refine ans_V rfl rfl ?_
 simp [c106]
 refine loop_cmp hs ht s 0 _ rfl (by omega) (by omega) (by simp) (by simp) (by simp) ?_ ?_
 ·intro st' h; simp at h; simp [h]
 ·intro st' h0 h1 h
  simp only [List.drop_zero] at h
  rw [h]
  by_cases a:s.length < t.length
  ·simp [h0,h1,sv_size,a]
  ·by_cases b:t.length < s.length
   ·simp [h0,h1,sv_size,a,b]
   ·simp [h0,h1,sv_size,a,b]
theorem loop_has {L:List Bytes} {a:Bytes} {ks:List Fr'} {K:Ex→St→Prop} (hL:L.length≤most):∀ (rest:List Bytes) (i:Nat) (st:St),L.drop i=rest→i≤L.length→st.σ 0=lv L→st.σ 1=sv a→st.σ 5=iv i →
  (∀ st',a∈rest→st'.σ 4=bv true→K .ret st')→(∀ st',a∉rest→VN (env P) 105 st' ks K)→V (env P) 105 (.loop L105_0) st (.blk 0::ks) K
 | [],i,st,hr,hi,h0,h1,h5,hret,hend=>by
   obtain ⟨hii,hlt,hd⟩:=drop_nil hr hi
   rw [V_loop]
   simp [L105_0,h0,h1,h5,hlt]
   exact hend _ (by simp)
 | q::rest,i,st,hr,hi,h0,h1,h5,hret,hend=>by
   obtain ⟨hq,hlt,hr',_⟩:=drop_cons hr
   have hc:=En_at hq
   have hw:=wrapS (i:=i) (by unfold most at hL; omega)
   have he:=fun t cx cy=>evBin_seql (P:=P) (t:=t) (cx:=cx) (cy:=cy) q a
   rw [V_loop]
   by_cases h:q=a
   ·subst h
    simp [L105_0,h0,h1,h5,hlt,hc,he]
    exact hret _ (by simp) (by simp)
   ·simp [L105_0,h0,h1,h5,hlt,hc,he,h,hw]
    have h':¬ a=q:=fun e=>h e.symm
    exact loop_has (a:=a) hL rest (i+1) _ hr' (by omega) (by simp [h0]) (by simp [h1]) (by simp) (fun st' x y=>hret st' (by simp [x]) y) (fun st' x=>hend st' (by simp [x,h']))
theorem r1Has_ans {L:List Bytes} {a:Bytes} (hL:L.length≤most):ans (env P) 105 [lv L,sv a]=some (bv (decide (a∈L))):=by
 refine ans_V rfl rfl ?_
 simp [c105]
 refine loop_has (a:=a) hL L 0 _ rfl (by omega) (by simp) (by simp) (by simp) ?_ ?_
 ·intro st' h h4; simp [h4,h]
 ·intro st' h; simp [h]
end Go.Evl.Zone

namespace Go.Evl.Zone
open Go Go.Evl
variable {P:Program}
structure At where
 id:Bytes
 n:Int
 deriving DecidableEq
structure KRow where
 id:Bytes
 upto:Int
 extra:List Int
 deriving DecidableEq
structure MRow where
 id:Bytes
 vec:List At
 deriving DecidableEq
instance:Enc At:=⟨fun a=>[sv a.id,iv a.n],2,fun _=>rfl,fun _=>rfl⟩
instance:Enc KRow:=⟨fun a=>[sv a.id,iv a.upto,lv a.extra],3,fun _=>rfl,fun _=>rfl⟩
instance:Enc MRow:=⟨fun a=>[sv a.id,lv a.vec],2,fun _=>rfl,fun _=>rfl⟩
@[simp] theorem Enc_At (a:At):Enc.c a=[sv a.id,iv a.n]:=rfl
@[simp] theorem Enc_KRow (a:KRow):Enc.c a=[sv a.id,iv a.upto,lv a.extra]:=rfl
@[simp] theorem Enc_MRow (a:MRow):Enc.c a=[sv a.id,lv a.vec]:=rfl
@[simp] theorem Enc_kAt:Enc.k At=2:=rfl
@[simp] theorem Enc_kKRow:Enc.k KRow=3:=rfl
@[simp] theorem Enc_kMRow:Enc.k MRow=2:=rfl
end Go.Evl.Zone

namespace Go.Evl.Zone
open Go Go.Evl
variable {P:Program}
theorem vecOrder_ans {a b:At}:ans (env P) 206 [.agg (Enc.c a),.agg (Enc.c b)]=some (iv (cmpB a.id b.id)):=by
 refine ans_V rfl rfl ?_
 have h:=idCompare_ans (P:=P) (a:=a.id) (b:=b.id)
 simp [c206,h]
end Go.Evl.Zone

namespace Go.Evl.Zone
open Go Go.Evl
variable {P:Program}
def spanR (u:Int) (l:List Int):Bool:=decide (0≤u) && decide (u≤1048576) && decide (l.length≤4096) && go (u+1) l
where go:Int→List Int→Bool
 | _,[]=>true
 | last,n::r=>decide (last < n) && decide (n≤1048576) && go n r
def spanC (u:Int) (l:List Int):Int:=IntKind.i64.wrap (u+l.length)
theorem r2Count_ans {u:Int} {l:List Int}:ans (env P) 162 [.agg [iv u,lv l]]=some (iv (spanC u l)):=by
 refine ans_V rfl rfl ?_
 simp [c162,spanC]
theorem spanCount_ans {u:Int} {l:List Int}:ans (env P) 202 [.agg [iv u,lv l]]=some (iv (spanC u l)):=by
 refine ans_V rfl rfl ?_
 simp [c202,spanC]
end Go.Evl.Zone

namespace Go.Evl.Zone
open Go Go.Evl
variable {P:Program}
theorem knowOrder_ans {a b:KRow}:ans (env P) 188 [.agg (Enc.c a),.agg (Enc.c b)]=some (iv (cmpB a.id b.id)):=by
 refine ans_V rfl rfl ?_
 have h:=idCompare_ans (P:=P) (a:=a.id) (b:=b.id)
 simp [c188,h]
theorem matOrder_ans {a b:MRow}:ans (env P) 198 [.agg (Enc.c a),.agg (Enc.c b)]=some (iv (cmpB a.id b.id)):=by
 refine ans_V rfl rfl ?_
 have h:=idCompare_ans (P:=P) (a:=a.id) (b:=b.id)
 simp [c198,h]
theorem spanC_nn {u:Int} {l:List Int} (h:spanR u l=true):0≤spanC u l:=by
 simp [spanR] at h
 unfold spanC
 rw [wrap64_id (by omega)]; omega
end Go.Evl.Zone

namespace Go.Evl.Zone
open Go Go.Evl Go.Evl.Fl
variable {P:Program}
structure Sty (P:Program) (t:TypeId) (L:List (TypeId × Nat)):Prop where
 fs : ∃ fs : Array Field, P.underlying t = some (.struct fs) ∧ fs.toList.map (fun f => (f.type, f.offset)) = L ∧ (fs.toList.all fun f => f.name != "_") = true
 held:P.stoodInHeld t=false
 guard:P.eqGuardType P.depth t=false
theorem eqFields_all {d : Nat} {xs ys : Array Value} (r : TypeId × Nat → Bool) : ∀ (fs : List Field), (fs.all fun f => f.name != "_") = true →
  (∀ f∈fs,∃ a b,pureRun P (part f.type xs f.offset)=some a∧pureRun P (part f.type ys f.offset)=some b∧pureRun P (Op.equalIn d f.type a b)=some (r (f.type,f.offset))) →
  pureRun P (Op.eqFields d xs ys fs)=some ((fs.map fun f=>(f.type,f.offset)).all r)
 | [],_,_=>rfl
 | f::fs,hn,h=>by
   simp only [List.all_cons,Bool.and_eq_true,bne,Bool.not_eq_true'] at hn
   obtain ⟨a,b,h1,h2,h3⟩:=h f (by simp)
   exact pureRun_eqCons hn.1 h1 h2 h3 (eqFields_all r fs hn.2 fun g hg=>h g (by simp [hg]))
theorem sty_part {t:TypeId} {L:List (TypeId × Nat)} {n:Nat} {cs:Array Value} {o:Nat} (S:Sty P t L) (hn:szOf P t=some n):pureRun P (part t cs o)=some (.agg (cs.extract o (o+n))):=by
 obtain ⟨fs,ht,_⟩:=S.fs
 obtain ⟨i,hi,rfl⟩:=Option.map_eq_some_iff.1 hn
 unfold part isAgg sizeOf
 simp only [pureRun_bind,pureRun_under,ht,Option.bind_some,pureRun_pure]
 simp [typeInfo,pureRun_bind,pureRun_prog,hi,pureRun_pure]
theorem sty_equal {d:Nat} {t:TypeId} {L:List (TypeId × Nat)} {xs ys:Array Value} (S:Sty P t L) (r:TypeId × Nat→Bool)
  (h:∀ p∈L,∃ a b,pureRun P (part p.1 xs p.2)=some a∧pureRun P (part p.1 ys p.2)=some b∧pureRun P (Op.equalIn d p.1 a b)=some (r p)):pureRun P (Op.equalIn (d+1) t (.agg xs) (.agg ys))=some (L.all r):=by
 obtain ⟨fs,ht,hf,hn⟩:=S.fs
 rw [pureRun_equal_struct ht S.held,eqFields_all r fs.toList hn,hf]
 intro f hfm
 exact h (f.type,f.offset) (by rw [← hf]; exact List.mem_map.2 ⟨f,hfm,rfl⟩)
theorem sty_eql {t:TypeId} {L:List (TypeId × Nat)} {cx cy:Bool} {xs ys:List PV} {vs us:List Value} (S:Sty P t L) (r:TypeId × Nat→Bool) (hx:toVs xs=some vs) (hy:toVs ys=some us)
  (h:∀ p∈L,∃ a b,pureRun P (part p.1 vs.toArray p.2)=some a∧pureRun P (part p.1 us.toArray p.2)=some b∧pureRun P (Op.equalIn 9999 p.1 a b)=some (r p)) :
  evBin P .eql t cx cy (.agg xs) (.agg ys)=some (bv (L.all r))∧evBin P .neq t cx cy (.agg xs) (.agg ys)=some (bv (!L.all r)):=by
 obtain ⟨fs,ht,hf,hn⟩:=S.fs
 refine evBin_struct_eql ht S.held S.guard hx hy ?_
 rw [eqFields_all r fs.toList hn,hf]
 intro f hfm
 exact h (f.type,f.offset) (by rw [← hf]; exact List.mem_map.2 ⟨f,hfm,rfl⟩)
end Go.Evl.Zone

namespace Go.Evl.Zone
open Go Go.Evl
variable {P:Program}
open Go.Evl.Fl
structure Item where
 key:Int
 id:Bytes
 seq:Int
 stamp:Int
 dead:Bool
 x:Int
 y:Int
 text:Bytes
 held:Bool
 deriving DecidableEq
abbrev fw (n:Int):Nat:=FloatKind.f64.nearest n
abbrev cw (x y:Int):PV:=.val (.complex .f64 (fw x) (fw y))
abbrev itP (q:Item):List PV:=[iv q.key,sv q.id,iv q.seq,iv q.stamp,bv q.dead,cw q.x q.y,sv q.text,bv q.held]
abbrev itR (q:Item):List PV:=[iv q.key,sv q.id,iv q.seq,iv q.stamp,bv q.dead,iv q.x,iv q.y,sv q.text,bv q.held]
def EnP (l:List Item):List (List PV):=l.map itP
abbrev lvP (l:List Item):PV:=.im (EnP l) false
@[simp] theorem EnP_length (l:List Item):(EnP l).length=l.length:=by simp [EnP]
@[simp] theorem EnP_nil:EnP []=[]:=rfl
theorem EnP_append (a b:List Item):EnP (a++b)=EnP a++EnP b:=by simp [EnP]
@[simp] theorem allLen_EnP (l:List Item):allLen 8 (EnP l)=true:=by
 rw [allLen_iff]
 intro x hx
 simp only [EnP,List.mem_map] at hx
 obtain ⟨a,_,rfl⟩:=hx
 rfl
theorem plainss_EnP (l:List Item):plainss (EnP l)=some (EnP l):=plainss_ok fun y hy=>by
 simp only [EnP,List.mem_map] at hy
 obtain ⟨a,_,rfl⟩:=hy
 rfl
theorem EnP_at {l:List Item} {i:Nat} {q:Item} (h:l[i]?=some q):∀ hi,(EnP l)[i]'hi=itP q:=fun hi=>by
 have h2:=(List.getElem?_eq_some_iff.1 h).2
 simp only [EnP,List.getElem_map,h2]
theorem EnP_at? {l:List Item} {i:Nat} {q:Item} (h:l[i]?=some q):(EnP l)[i]?=some (itP q):=by simp [EnP,h]
def EnR (l:List Item):List (List PV):=l.map itR
abbrev lvR (l:List Item):PV:=.im (EnR l) false
@[simp] theorem EnR_length (l:List Item):(EnR l).length=l.length:=by simp [EnR]
@[simp] theorem EnR_nil:EnR []=[]:=rfl
theorem EnR_append (a b:List Item):EnR (a++b)=EnR a++EnR b:=by simp [EnR]
theorem EnR_one (a:Item):EnR [a]=[itR a]:=rfl
@[simp] theorem allLen_EnR (l:List Item):allLen 9 (EnR l)=true:=by
 rw [allLen_iff]
 intro x hx
 simp only [EnR,List.mem_map] at hx
 obtain ⟨a,_,rfl⟩:=hx
 rfl
theorem plainss_EnR (l:List Item):plainss (EnR l)=some (EnR l):=plainss_ok fun y hy=>by
 simp only [EnR,List.mem_map] at hy
 obtain ⟨a,_,rfl⟩:=hy
 rfl
theorem EnR_at {l:List Item} {i:Nat} {q:Item} (h:l[i]?=some q):∀ hi,(EnR l)[i]'hi=itR q:=fun hi=>by
 have h2:=(List.getElem?_eq_some_iff.1 h).2
 simp only [EnR,List.getElem_map,h2]
theorem EnR_at? {l:List Item} {i:Nat} {q:Item} (h:l[i]?=some q):(EnR l)[i]?=some (itR q):=by simp [EnR,h]
def smI (n:Int):Prop:=-1099511627776≤n∧n≤1099511627776
def Item.sm (q:Item):Prop:=smI q.x∧smI q.y
def RS.sm (q:RS):Prop:=smI q.x∧smI q.y∧smI q.s
theorem sm_is {n:Int} (h:smI n):Is (fw n) n:=Is.nearest (by unfold smI at h; omega)
structure TI (P:Program):Prop extends Typed3 P where
 t4:P.underlying 4=some .bool
 t9:P.underlying 9=some .string
 place:Sty P 28 [(3,0),(3,1)]
 tid:P.underlying 39=some .string
 at_:Sty P 206 [(39,0),(3,1)]
 rat:Sty P 190 [(9,0),(3,1)]
 ver:Sty P 73 [(39,0),(3,1),(3,2)]
 verS:szOf P 73=some 3
 item:Sty P 75 [(3,0),(73,1),(4,4),(67,5),(9,6),(4,7)]
 rver:Sty P 77 [(9,0),(3,1),(3,2)]
 rverS:szOf P 77=some 3
 placeS:szOf P 28=some 2
 ritem:Sty P 79 [(3,0),(77,1),(4,4),(28,5),(9,7),(4,8)]
end Go.Evl.Zone

namespace Go.Evl.Zone
open Go Go.Evl
variable {P:Program}
def bsL (k:Nat):CC :=
 (.seq
 (.seq
 (.reg false [
  ⟨(some 15),(.mv (.t 9)),none⟩,
  ⟨(some 16),(.mv (.t 10)),none⟩,
  ⟨(some 17),(.bin .lss 3 false false (.t 15) (.t 16)),none⟩] [])
 (.cond (.t 17)
  .skip
  (.exit 0)))
 (.block 1
  (.seq
  (.reg false [
   ⟨(some 18),(.mv (.t 9)),none⟩,
   ⟨(some 19),(.mv (.t 10)),none⟩,
   ⟨(some 20),(.bin .add 3 false false (.t 18) (.t 19)),none⟩,
   ⟨(some 21),(.cv 3 264 (.t 20)),none⟩,
   ⟨(some 22),(.bin .shr 264 false true (.t 21) (.c (.val (.int .u64 1)))),none⟩,
   ⟨(some 23),(.cv 264 3 (.t 22)),none⟩,
   ⟨(some 11),(.mv (.t 23)),none⟩] [])
  (.seq
  (.reg true [
   ⟨(some 24),(.mv (.t 2)),none⟩,
   ⟨(some 25),(.mv (.t 0)),none⟩,
   ⟨(some 26),(.mv (.t 11)),none⟩,
   ⟨(some 27),(.ias k (.t 25) (.t 26)),none⟩,
   ⟨(some 28),(.ld k true (.t 27)),none⟩,
   ⟨(some 29),(.ld k true (.t 4)),none⟩,
   ⟨(some 30),(.call (.t 24) [(.t 28),(.t 29)]),none⟩,
   ⟨(some 31),(.bin .lss 3 false true (.t 30) (.c (.val (.int .i64 0)))),none⟩] [])
  (.cond (.t 31)
   (.reg false [
    ⟨(some 32),(.mv (.t 11)),none⟩,
    ⟨(some 33),(.bin .add 3 false true (.t 32) (.c (.val (.int .i64 1)))),none⟩,
    ⟨(some 9),(.mv (.t 33)),none⟩] [])
   (.reg false [
    ⟨(some 34),(.mv (.t 11)),none⟩,
    ⟨(some 10),(.mv (.t 34)),none⟩] []))))))
def bsC (k:Nat):CF:=⟨
 (.seq
 (.reg false [
  ⟨(some 4),(.box (.t 1)),none⟩,
  ⟨(some 6),(.mv (.c (.val (.int .i64 0)))),none⟩,
  ⟨(some 7),(.mv (.c (.val (.bool false)))),none⟩] [])
 (.seq
 (.reg false [
  ⟨(some 12),(.mv (.t 0)),none⟩,
  ⟨(some 13),(.len false (.t 12)),none⟩,
  ⟨(some 8),(.mv (.t 13)),none⟩] [])
 (.seq
 (.reg false [
  ⟨(some 14),(.mv (.t 8)),none⟩,
  ⟨(some 9),(.mv (.c (.val (.int .i64 0)))),none⟩,
  ⟨(some 10),(.mv (.t 14)),none⟩] [])
 (.seq
 (.block 0
  (.loop (bsL k)))
 (.seq
 (.reg true [
  ⟨(some 35),(.mv (.t 9)),none⟩,
  ⟨(some 36),(.mv (.t 9)),none⟩,
  ⟨(some 37),(.mv (.t 8)),none⟩,
  ⟨(some 38),(.bin .lss 3 false false (.t 36) (.t 37)),none⟩,
  ⟨(some 39),(.mv (.t 38)),none⟩,
  ⟨(some 40),(.mv (.t 2)),(some (39,true))⟩,
  ⟨(some 41),(.mv (.t 0)),(some (39,true))⟩,
  ⟨(some 42),(.mv (.t 9)),(some (39,true))⟩,
  ⟨(some 43),(.ias k (.t 41) (.t 42)),(some (39,true))⟩,
  ⟨(some 44),(.ld k true (.t 43)),(some (39,true))⟩,
  ⟨(some 45),(.ld k true (.t 4)),(some (39,true))⟩,
  ⟨(some 46),(.call (.t 40) [(.t 44),(.t 45)]),(some (39,true))⟩,
  ⟨(some 47),(.bin .eql 3 false true (.t 46) (.c (.val (.int .i64 0)))),(some (39,true))⟩,
  ⟨(some 48),(.pick (.t 39) (.t 47) (.c (.val (.bool false)))),none⟩,
  ⟨(some 6),(.mv (.t 35)),none⟩,
  ⟨(some 7),(.mv (.t 48)),none⟩] [])
 .ret))))),
 [.tmp 6,.tmp 7]⟩
def lbN {α:Type} (c:α→Int):List α→Nat
 | []=>0
 | a::l=>if c a < 0 then lbN c l+1 else 0
def fnd {α:Type} (c:α→Int) (l:List α):Bool:=match l[lbN c l]? with
 | some a=>decide (c a=0)
 | none=>false
def Mono {α:Type} (c:α→Int) (l:List α):Prop:=l.Pairwise fun a b=>c b < 0→c a < 0
section
variable {α:Type} {c:α→Int}
theorem lbN_le:∀ l:List α,lbN c l≤l.length
 | []=>Nat.le_refl _
 | a::l=>by
   have:=lbN_le l
   unfold lbN
   split <;> simp <;> omega
theorem lbN_ge:∀ (l:List α) (h:Nat) (a:α),l[h]?=some a→¬ c a < 0→lbN c l≤h
 | [],h,a,e,k=>by simp at e
 | b::l,0,a,e,k=>by
   simp at e; subst e
   unfold lbN
   rw [if_neg k]; exact Nat.le_refl _
 | b::l,h+1,a,e,k=>by
   have:=lbN_ge l h a (by simpa using e) k
   unfold lbN
   split <;> omega
theorem lbN_gt:∀ (l:List α) (h:Nat) (a:α),Mono c l→l[h]?=some a→c a < 0→h < lbN c l
 | [],h,a,m,e,k=>by simp at e
 | b::l,0,a,m,e,k=>by
   simp at e; subst e
   unfold lbN
   rw [if_pos k]; omega
 | b::l,h+1,a,m,e,k=>by
   have m':=List.pairwise_cons.1 m
   have e':l[h]?=some a:=by simpa using e
   have hb:c b < 0:=m'.1 a (List.mem_of_getElem? e') k
   have:=lbN_gt l h a m'.2 e' k
   unfold lbN
   rw [if_pos hb]; omega
end
structure TB (P:Program):Prop extends TI P where
 tu:P.underlying 264=some (.int .u64)
theorem cvU (T:TB P) {n:Int} (h0:0≤n) (h1:n < 9223372036854775808):scal P (Go.convert 3 264 (.int .i64 n))=some (.val (.int .u64 n)):=by
 rw [cv_ii (by rw [T.t3]; rfl) T.tu]
 have:IntKind.u64.wrap n=n:=by show n % 18446744073709551616=n; omega
 rw [this]
theorem cvI (T:TB P) {n:Int} (h0:0≤n) (h1:n < 9223372036854775808):scal P (Go.convert 264 3 (.int .u64 n))=some (.val (.int .i64 n)):=by
 rw [cv_ii (by rw [T.tu]; rfl) T.t3]
 have:IntKind.i64.wrap n=n:=wrap64_id (by omega)
 rw [this]
theorem shr1 {n:Int} (h:0≤n):∀ {t:TypeId} {cx cy:Bool},evBin P .shr t cx cy (.val (.int .u64 n)) (.val (.int .u64 1))=some (.val (.int .u64 (n / 2))):=by
 intro t cx cy
 have e:evBin P .shr t cx cy (.val (.int .u64 n)) (.val (.int .u64 1))=some (.val (.int .u64 (n.fdiv (2 ^ 1)))):=rfl
 rw [e,Int.fdiv_eq_ediv_of_nonneg _ (by decide)]
 rfl
section
variable {α:Type} {enc:α→List PV} {c:α→Int} {k:Nat} {F G:FuncId} {tc:List PV} {l:List α}
theorem bs_loop (T:TB P) (hp:(prim F G).isNone=true) (hh:(inlF G || keepF F G)=false) (hk:0 < k) (hlen:∀ a,(enc a).length=k) (htc:tc.length=k) (hpl:∀ H a,expCs H (enc a)=some (enc a,[])) (hpt:∀ H,expCs H tc=some (tc,[])) (hcall:∀ a∈l,ans (env P) G [.agg (enc a),.agg tc]=some (iv (c a))) (hm:Mono c l) (hL:l.length≤most) {ks:List Fr'} {K:Ex→St→Prop} :
  ∀ (d i j:Nat) (st:St),j - i=d→i≤lbN c l→lbN c l≤j→j≤l.length→st.σ 0 = .im (l.map enc) false→st.σ 2 = .fn G []→(∃ p,st.σ 4 = .ptr p 0∧st.h.at_ p = .box tc∧p < st.h.n)→st.σ 9=iv i→st.σ 10=iv j→st.σ 8=iv l.length →
  (∀ st',st'.σ 9=iv (lbN c l)→st'.σ 0 = .im (l.map enc) false→st'.σ 2 = .fn G []→st'.σ 8=iv l.length→(∃ p,st'.σ 4 = .ptr p 0∧st'.h.at_ p = .box tc∧p < st'.h.n)→VN (env P) F st' ks K)→V (env P) F (.loop (bsL k)) st (.blk 0::ks) K:=by
 intro d
 induction d using Nat.strongRecOn with
 | ind d ih =>
   intro i j st hd hi hj hjl h0 h2 h4 h9 h10 h8 hend
   obtain ⟨p,hp4,hpb,hpn⟩:=h4
   have hL2:l.length≤68719476736:=hL
   rw [V_loop]
   by_cases hij:i < j
   ·obtain ⟨m,hm0⟩:∃ m,m=(i+j) / 2:=⟨_,rfl⟩
    have hmj:m < j:=by omega
    have him:i≤m:=by omega
    have hml:m < l.length:=by omega
    obtain ⟨a,ha⟩:∃ a,l[m]?=some a:=⟨_,List.getElem?_eq_getElem hml⟩
    have hij':(i:Int) < (j:Int):=by omega
    have w1:IntKind.i64.wrap ((i:Int)+(j:Int))=(i:Int)+(j:Int):=wrap64_id (by omega)
    have q1:=cvU T (n:=(i:Int)+(j:Int)) (by omega) (by omega)
    have q2:=fun t cx cy=>@shr1 P ((i:Int)+(j:Int)) (by omega) t cx cy
    have e2:((i:Int)+(j:Int)) / 2=(m:Int):=by omega
    have q3:=cvI T (n:=(m:Int)) (by omega) (by omega)
    have hca:=hcall a (List.mem_of_getElem? ha)
    have hix:(l.map enc)[m]?=some (enc a):=by simp [ha]
    have hixx:∀ hi,(l.map enc)[m]'hi=enc a:=fun hi=>(List.getElem?_eq_some_iff.1 hix).2
    have hall:allLen k (l.map enc)=true:=allLen_iff.2 fun x hx=>by
     simp only [List.mem_map] at hx
     obtain ⟨a,_,rfl⟩:=hx
     exact hlen a
    have hta:(enc a).take k=enc a:=List.take_of_length_le (by rw [hlen a]; exact Nat.le_refl _)
    have htt:tc.take k=tc:=List.take_of_length_le (by rw [htc]; exact Nat.le_refl _)
    have hla:=hlen a
    have hne:¬ p=st.h.n:=by omega
    have hp1:p < st.h.n+1:=by omega
    by_cases hc:c a < 0
    ·have hcm:=lbN_gt l m a hm ha hc
     have w2:IntKind.i64.wrap ((m:Int)+1)=(m:Int)+1:=wrap64_id (by omega)
     simp [bsL,h0,h2,h9,h10,hp4,hpb,hpn,hij',w1,q1,q2,e2,q3,hml,hix,hixx,hne,hp1,hc,hall,hla,htc,hta,htt]
     rw [VA_ownT (g:=G) (by simp [h2]) hp (by simp only [Bool.or_eq_false_iff] at hh; show howF _ G = .own; unfold howF; rw [hh.1,hh.2]; rfl)]
     simp [hca,hpl,hpt,hc,w2]
     exact ih (j - (m+1)) (by omega) (m+1) j _ rfl (by omega) hj hjl (by simp [h0]) (by simp [h2]) ⟨p,by simp [hp4],by simp [hpb,hpn],by simp; omega⟩ (by simp) (by simp [h10]) (by simp [h8]) hend
    ·have hcm:=lbN_ge l m a ha hc
     simp [bsL,h0,h2,h9,h10,hp4,hpb,hpn,hij',w1,q1,q2,e2,q3,hml,hix,hixx,hne,hp1,hc,hall,hla,htc,hta,htt]
     rw [VA_ownT (g:=G) (by simp [h2]) hp (by simp only [Bool.or_eq_false_iff] at hh; show howF _ G = .own; unfold howF; rw [hh.1,hh.2]; rfl)]
     simp [hca,hpl,hpt,hc]
     exact ih (m - i) (by omega) i m _ rfl hi hcm (by omega) (by simp [h0]) (by simp [h2]) ⟨p,by simp [hp4],by simp [hpb,hpn],by simp; omega⟩ (by simp [h9]) (by simp) (by simp [h8]) hend
   ·have hij':¬ (i:Int) < (j:Int):=by omega
    obtain rfl:i=lbN c l:=by omega
    simp [bsL,h9,h10,hij']
    exact hend _ (by simp [h9]) (by simp [h0]) (by simp [h2]) (by simp [h8]) ⟨p,by simp [hp4],by simp [hpb,hpn],by simp; omega⟩
theorem bs_ans (T:TB P) (hcf:tab F=some (bsC k)) (hp:(prim F G).isNone=true) (hh:(inlF G || keepF F G)=false) (hk:0 < k) (hlen:∀ a,(enc a).length=k) (htc:tc.length=k) (hpl:∀ H a,expCs H (enc a)=some (enc a,[])) (hpt:∀ H,expCs H tc=some (tc,[])) (hcp:tc.all cellP=true) (hcall:∀ a∈l,ans (env P) G [.agg (enc a),.agg tc]=some (iv (c a))) (hm:Mono c l) (hL:l.length≤most) :
  ans (env P) F [.im (l.map enc) false,.agg tc,.fn G []]=some (.tup [iv (lbN c l),bv (fnd c l)]):=by
 refine ans_V rfl hcf ?_
 simp [bsC,-cellP,-List.all_eq_true,hcp]
 refine bs_loop T hp hh hk hlen htc hpl hpt hcall hm hL l.length 0 l.length _ rfl (by omega) (lbN_le l) (Nat.le_refl _) (by simp) (by simp) ⟨0,by simp,by simp,by simp⟩ (by simp) (by simp) (by simp) fun st' h9 h0 h2 h8 ⟨p,hp4,hpb,hpn⟩=>?_
 have hlb:=lbN_le (c:=c) l
 have hne:¬ p=st'.h.n:=by omega
 have hp1:p < st'.h.n+1:=by omega
 have hall:allLen k (l.map enc)=true:=allLen_iff.2 fun x hx=>by
  simp only [List.mem_map] at hx
  obtain ⟨a,_,rfl⟩:=hx
  exact hlen a
 have htt:tc.take k=tc:=List.take_of_length_le (by rw [htc]; exact Nat.le_refl _)
 by_cases hl:lbN c l < l.length
 ·obtain ⟨a,ha⟩:∃ a,l[lbN c l]?=some a:=⟨_,List.getElem?_eq_getElem hl⟩
  have hix:(l.map enc)[lbN c l]?=some (enc a):=by simp [ha]
  have hixx:∀ hi,(l.map enc)[lbN c l]'hi=enc a:=fun hi=>(List.getElem?_eq_some_iff.1 hix).2
  have hta:(enc a).take k=enc a:=List.take_of_length_le (by rw [hlen a]; exact Nat.le_refl _)
  have hla:=hlen a
  have hca:=hcall a (List.mem_of_getElem? ha)
  have hl':(lbN c l:Int) < (l.length:Int):=by omega
  have hf:fnd c l=decide (c a=0):=by unfold fnd; rw [ha]
  simp [h9,h0,h2,h8,hp4,hpb,hpn,hl',hl,hix,hixx,hne,hp1,hall,hla,htc,hta,htt]
  rw [VA_ownT (g:=G) (by simp [h2]) hp (by simp only [Bool.or_eq_false_iff] at hh; show howF _ G = .own; unfold howF; rw [hh.1,hh.2]; rfl)]
  simp [hca,hpl,hpt,hf,resV,resP]
 ·have hl':¬ (lbN c l:Int) < (l.length:Int):=by omega
  have hf:fnd c l=false:=by unfold fnd; rw [List.getElem?_eq_none (by omega)]
  simp [h9,h0,h2,h8,hp4,hpb,hpn,hl',hl,hne,hp1,hf,resV,resP]
end
def cmpI (a b:Int):Int:=if a < b then -1 else if b < a then 1 else 0
theorem cmpInt_ans {a b:Int}:ans (env P) 219 [iv a,iv b]=some (iv (cmpI a b)):=by
 have hn:∀ x:Int,ans (env P) 245 [iv x]=some (bv false):=fun x=>by
  refine ans_V rfl rfl ?_
  simp [c245]
 refine ans_V rfl rfl ?_
 by_cases h1:a < b
 ·simp [c219,hn,cmpI,h1]
 ·by_cases h2:b < a <;> simp [c219,hn,cmpI,h1,h2]
theorem storeOrder_ans {a b:Item} {ca:List PV} (h:ca=itP b):ans (env P) 186 [.agg (itP a),.agg ca]=some (iv (cmpI a.key b.key)):=by
 subst h
 refine ans_V rfl rfl ?_
 have h:=cmpInt_ans (P:=P) (a:=a.key) (b:=b.key)
 simp [c186,h]
end Go.Evl.Zone

namespace Go.Evl.Zone
open Go Go.Evl
theorem cmp_anti:∀ a b:Bytes,0 < cmpB a b→cmpB b a < 0
 | [],[],h=>by simp [cmpB,Lib.compareBytes] at h
 | [],_::_,h=>by simp [cmpB,Lib.compareBytes] at h
 | _::_,[],h=>by simp [cmpB,Lib.compareBytes]
 | x::a,y::b,h=>by
   simp only [cmpB,Lib.compareBytes] at h ⊢
   have ih:=cmp_anti a b
   simp only [cmpB] at ih
   split at h
   ·omega
   ·split at h
    ·rename_i h1 h2
     rw [if_pos (by assumption)]
     omega
    ·rename_i h1 h2
     rw [if_neg (by assumption),if_neg (by assumption)]
     exact ih h
theorem cmp_zero:∀ a b:Bytes,cmpB a b=0→a=b
 | [],[],h=>rfl
 | [],_::_,h=>by simp [cmpB,Lib.compareBytes] at h
 | _::_,[],h=>by simp [cmpB,Lib.compareBytes] at h
 | x::a,y::b,h=>by
   simp only [cmpB,Lib.compareBytes] at h
   split at h
   ·omega
   ·split at h
    ·omega
    ·rename_i h1 h2
     have e:x=y:=by
      have h3:¬ x < y:=by simpa using h1
      have h4:¬ y < x:=by simpa using h2
      have h5:¬ x.toNat < y.toNat:=h3
      have h6:¬ y.toNat < x.toNat:=h4
      exact UInt8.toNat_inj.1 (by omega)
     rw [e,cmp_zero a b h]
theorem cmp_trans:∀ a b c:Bytes,cmpB a b < 0→cmpB b c < 0→cmpB a c < 0
 | a,[],c,h,k=>by cases a <;> simp [cmpB,Lib.compareBytes] at h
 | [],y::b,[],h,k=>by simp [cmpB,Lib.compareBytes] at k
 | [],y::b,z::c,h,k=>by simp [cmpB,Lib.compareBytes]
 | x::a,y::b,[],h,k=>by simp [cmpB,Lib.compareBytes] at k
 | x::a,y::b,z::c,h,k=>by
   have ih:=cmp_trans a b c
   simp only [cmpB] at ih
   simp only [cmpB,Lib.compareBytes] at h k ⊢
   have e1:(x < y)=(x.toNat < y.toNat):=rfl
   have e2:(y < z)=(y.toNat < z.toNat):=rfl
   have e3:(x < z)=(x.toNat < z.toNat):=rfl
   have e4:(y < x)=(y.toNat < x.toNat):=rfl
   have e5:(z < y)=(z.toNat < y.toNat):=rfl
   have e6:(z < x)=(z.toNat < x.toNat):=rfl
   simp only [e1,e2,e3,e4,e5,e6] at h k ⊢
   by_cases h1:x.toNat < y.toNat
   ·by_cases k1:y.toNat < z.toNat
    ·rw [if_pos (by omega)]; omega
    ·rw [if_neg k1] at k
     by_cases k2:z.toNat < y.toNat
     ·rw [if_pos k2] at k; omega
     ·rw [if_pos (by omega)]; omega
   ·rw [if_neg h1] at h
    by_cases h2:y.toNat < x.toNat
    ·rw [if_pos h2] at h; omega
    ·rw [if_neg h2] at h
     by_cases k1:y.toNat < z.toNat
     ·rw [if_pos (by omega)]; omega
     ·rw [if_neg k1] at k
      by_cases k2:z.toNat < y.toNat
      ·rw [if_pos k2] at k; omega
      ·rw [if_neg k2] at k
       rw [if_neg (by omega),if_neg (by omega)]
       exact ih h k
def lastP {α:Type}:Option α→List α→Option α
 | p,[]=>p
 | _,a::l=>lastP (some a) l
theorem lastP_some {α:Type}:∀ (L:List α) (a:α) (p:Option α),lastP p (L++[a])=some a
 | [],a,p=>rfl
 | b::L,a,p=>by simp only [List.cons_append,lastP,lastP_some L a]
end Go.Evl.Zone

namespace Go.Evl.Zone
open Go Go.Evl
structure Cmp {κ:Type} (cmp:κ→κ→Int):Prop where
 self:∀ a,cmp a a=0
 zero:∀ a b,cmp a b=0→a=b
 neg:∀ a b,cmp a b < 0→0 < cmp b a
 pos:∀ a b,0 < cmp a b→cmp b a < 0
 trans:∀ a b c,cmp a b < 0→cmp b c < 0→cmp a c < 0
theorem cmpB_ok:Cmp cmpB where
 self:=cmp_self
 zero:=cmp_zero
 pos:=cmp_anti
 trans:=cmp_trans
 neg:=fun a b h=>by
  rcases Int.lt_trichotomy (cmpB b a) 0 with k | k | k
  ·have:=cmp_trans _ _ _ h k
   rw [cmp_self] at this
   omega
  ·obtain rfl:=cmp_zero _ _ k
   rw [cmp_self] at h; omega
  ·exact k
theorem cmpI_ok:Cmp cmpI where
 self:=fun a=>by simp [cmpI]
 zero:=fun a b h=>by unfold cmpI at h; split at h <;> (try split at h) <;> omega
 neg:=fun a b h=>by
  unfold cmpI at *
  by_cases h1:a < b
  ·rw [if_neg (show ¬ b < a by omega),if_pos h1]; decide
  ·rw [if_neg h1] at h; split at h <;> omega
 pos:=fun a b h=>by
  unfold cmpI at *
  by_cases h1:a < b
  ·rw [if_pos h1] at h; omega
  ·by_cases h2:b < a
   ·rw [if_pos h2]; decide
   ·rw [if_neg h1,if_neg h2] at h; omega
 trans:=fun a b c h k=>by
  unfold cmpI at *
  by_cases h1:a < b
  ·by_cases k1:b < c
   ·rw [if_pos (show a < c by omega)]; decide
   ·rw [if_neg k1] at k; split at k <;> omega
  ·rw [if_neg h1] at h; split at h <;> omega
section
variable {α κ:Type} {cmp:κ→κ→Int} {key:α→κ}
def Srt (cmp:κ→κ→Int) (key:α→κ) (l:List α):Prop:=l.Pairwise fun a b=>cmp (key a) (key b) < 0
def getA [DecidableEq κ] (key:α→κ) (l:List α) (k:κ):Option α:=l.find? fun a=>decide (key a=k)
def putA (cmp:κ→κ→Int) (key:α→κ) (x:α):List α→List α
 | []=>[x]
 | b::l=>if cmp (key b) (key x) < 0 then b::putA cmp key x l else if cmp (key b) (key x)=0 then x::l else x::b::l
theorem Srt.mono (hc:Cmp cmp) (k:κ):∀ {l:List α},Srt cmp key l→Mono (fun a=>cmp (key a) k) l:=fun h=>List.Pairwise.imp (fun {a b} hab hb=>hc.trans _ _ _ hab hb) h
theorem Srt.tail {a:α} {l:List α} (h:Srt cmp key (a::l)):Srt cmp key l:=(List.pairwise_cons.1 h).2
theorem Srt.head {a b:α} {l:List α} (h:Srt cmp key (a::l)) (hb:b∈l):cmp (key a) (key b) < 0:=(List.pairwise_cons.1 h).1 b hb
theorem get_fnd [DecidableEq κ] (hc:Cmp cmp) (k:κ):∀ {l:List α},Srt cmp key l→match getA key l k with
  | some a=>l[lbN (fun a=>cmp (key a) k) l]?=some a∧fnd (fun a=>cmp (key a) k) l=true
  | none=>fnd (fun a=>cmp (key a) k) l=false
 | [],h=>rfl
 | b::l,h=>by
   have ih:=get_fnd hc k h.tail
   by_cases h1:cmp (key b) k < 0
   ·have hne:¬ key b=k:=by rintro rfl; rw [hc.self] at h1; omega
    have e:getA key (b::l) k=getA key l k:=by simp [getA,hne]
    have e2:lbN (fun a=>cmp (key a) k) (b::l)=lbN (fun a=>cmp (key a) k) l+1:=by simp [lbN,h1]
    have e3:fnd (fun a=>cmp (key a) k) (b::l)=fnd (fun a=>cmp (key a) k) l:=by unfold fnd; rw [e2]; simp
    rw [e,e2,e3]
    simpa using ih
   ·have e2:lbN (fun a=>cmp (key a) k) (b::l)=0:=by simp [lbN,h1]
    by_cases h0:cmp (key b) k=0
    ·have hk:=hc.zero _ _ h0
     have e:getA key (b::l) k=some b:=by simp [getA,hk]
     rw [e,e2]
     refine ⟨rfl,?_⟩
     unfold fnd
     rw [e2]
     simp [h0]
    ·have e3:fnd (fun a=>cmp (key a) k) (b::l)=false:=by unfold fnd; rw [e2]; simp [h0]
     have e:getA key (b::l) k=none:=by
      unfold getA
      rw [List.find?_eq_none]
      intro a ha
      simp only [decide_eq_true_eq]
      rintro rfl
      rcases List.mem_cons.1 ha with rfl | ha
      ·exact h0 (hc.self _)
      ·exact h1 (h.head ha)
     rw [e]
     exact e3
theorem put_at (x:α):∀ l:List α,putA cmp key x l=if fnd (fun a=>cmp (key a) (key x)) l=true then l.set (lbN (fun a=>cmp (key a) (key x)) l) x else l.take (lbN (fun a=>cmp (key a) (key x)) l)++x::l.drop (lbN (fun a=>cmp (key a) (key x)) l)
 | []=>by simp [putA,fnd,lbN]
 | b::l=>by
   have ih:=put_at x l
   by_cases h1:cmp (key b) (key x) < 0
   ·have e2:lbN (fun a=>cmp (key a) (key x)) (b::l)=lbN (fun a=>cmp (key a) (key x)) l+1:=by simp [lbN,h1]
    have e3:fnd (fun a=>cmp (key a) (key x)) (b::l)=fnd (fun a=>cmp (key a) (key x)) l:=by unfold fnd; rw [e2]; simp
    rw [putA,if_pos h1,ih,e2,e3]
    split <;> simp
   ·have e2:lbN (fun a=>cmp (key a) (key x)) (b::l)=0:=by simp [lbN,h1]
    have e3:fnd (fun a=>cmp (key a) (key x)) (b::l)=decide (cmp (key b) (key x)=0):=by unfold fnd; rw [e2]; simp
    rw [putA,if_neg h1,e2,e3]
    by_cases h0:cmp (key b) (key x)=0 <;> simp [h0]
theorem mem_put (hc:Cmp cmp) {x y:α}:∀ {l:List α},Srt cmp key l→(y∈putA cmp key x l↔y=x∨(y∈l∧key y≠key x))
 | [],h=>by simp [putA]
 | b::l,h=>by
   have ih:=mem_put hc (x:=x) (y:=y) h.tail
   unfold putA
   split
   ·rename_i h1
    have hne:key b≠key x:=by intro e; rw [e,hc.self] at h1; omega
    rw [List.mem_cons,ih,List.mem_cons]
    constructor
    ·rintro (rfl | rfl | ⟨h2,h3⟩)
     ·exact .inr ⟨.inl rfl,hne⟩
     ·exact .inl rfl
     ·exact .inr ⟨.inr h2,h3⟩
    ·rintro (rfl | ⟨rfl | h2,h3⟩)
     ·exact .inr (.inl rfl)
     ·exact .inl rfl
     ·exact .inr (.inr ⟨h2,h3⟩)
   ·rename_i h1
    split
    ·rename_i h0
     have hk:=hc.zero _ _ h0
     rw [List.mem_cons,List.mem_cons]
     constructor
     ·rintro (rfl | h2)
      ·exact .inl rfl
      ·refine .inr ⟨.inr h2,fun e=>?_⟩
       have:=h.head h2
       rw [e,← hk,hc.self] at this; omega
     ·rintro (rfl | ⟨rfl | h2,h3⟩)
      ·exact .inl rfl
      ·exact (h3 hk).elim
      ·exact .inr h2
    ·rename_i h0
     rw [List.mem_cons]
     constructor
     ·rintro (rfl | h2)
      ·exact .inl rfl
      ·refine .inr ⟨h2,fun e=>?_⟩
       rcases List.mem_cons.1 h2 with rfl | h2
       ·rw [e,hc.self] at h0; exact h0 rfl
       ·have h3:=h.head h2
        rw [e] at h3
        exact h1 h3
     ·rintro (rfl | ⟨h2,_⟩)
      ·exact .inl rfl
      ·exact .inr h2
theorem srt_put (hc:Cmp cmp) {x:α}:∀ {l:List α},Srt cmp key l→Srt cmp key (putA cmp key x l)
 | [],h=>by simp [putA,Srt]
 | b::l,h=>by
   have ih:=srt_put hc (x:=x) h.tail
   unfold putA
   split
   ·rename_i h1
    refine List.pairwise_cons.2 ⟨fun y hy=>?_,ih⟩
    rcases (mem_put hc h.tail).1 hy with rfl | ⟨h2,_⟩
    ·exact h1
    ·exact h.head h2
   ·rename_i h1
    split
    ·rename_i h0
     have hk:=hc.zero _ _ h0
     refine List.pairwise_cons.2 ⟨fun y hy=>?_,h.tail⟩
     rw [← hk]; exact h.head hy
    ·rename_i h0
     have h2:cmp (key x) (key b) < 0:=hc.pos _ _ (by omega)
     refine List.pairwise_cons.2 ⟨fun y hy=>?_,h⟩
     rcases List.mem_cons.1 hy with rfl | hy
     ·exact h2
     ·exact hc.trans _ _ _ h2 (h.head hy)
theorem srt_ext (hc:Cmp cmp):∀ {l m:List α},Srt cmp key l→Srt cmp key m→(∀ x,x∈l↔x∈m)→l=m
 | [],[],_,_,_=>rfl
 | [],b::m,_,_,h=>by have:=(h b).2 (by simp); simp at this
 | a::l,[],_,_,h=>by have:=(h a).1 (by simp); simp at this
 | a::l,b::m,h1,h2,h=>by
   have ns:∀ x:α,¬ cmp (key x) (key x) < 0:=fun x=>by rw [hc.self]; omega
   have e:a=b:=by
    rcases List.mem_cons.1 ((h a).1 (by simp)) with q | q
    ·exact q
    ·rcases List.mem_cons.1 ((h b).2 (by simp)) with q' | q'
     ·exact q'.symm
     ·exact (ns a (hc.trans _ _ _ (h1.head q') (h2.head q))).elim
   subst e
   rw [srt_ext hc h1.tail h2.tail fun x=>?_]
   have hx:=h x
   simp only [List.mem_cons] at hx
   constructor
   ·intro q
    rcases hx.1 (.inr q) with rfl | k
    ·exact (ns _ (h1.head q)).elim
    ·exact k
   ·intro q
    rcases hx.2 (.inr q) with rfl | k
    ·exact (ns _ (h2.head q)).elim
    ·exact k
theorem srt_filter {f:α→Bool} {l:List α} (h:Srt cmp key l):Srt cmp key (l.filter f):=h.sublist List.filter_sublist
theorem put_of [DecidableEq κ] (hc:Cmp cmp) {x:α} {v L1 L2:List α} (hv:Srt cmp key v) (h:L1++L2=v.filter (fun q=>decide (key q≠key x))) (h1:∀ y,lastP none L1=some y→cmp (key y) (key x) < 0) (h2:∀ z,L2.head?=some z→cmp (key x) (key z) < 0):L1++x::L2=putA cmp key x v:=by
 have hs:Srt cmp key (L1++L2):=by rw [h]; exact srt_filter hv
 have hs':=List.pairwise_append.1 hs
 have a2:∀ z∈L2,cmp (key x) (key z) < 0:=by
  cases L2 with
  | nil=>simp
  | cons b m =>
    intro z hz
    rcases List.mem_cons.1 hz with rfl | hz
    ·exact h2 _ rfl
    ·exact hc.trans _ _ _ (h2 b rfl) ((List.pairwise_cons.1 hs'.2.1).1 z hz)
 have a1:∀ y∈L1,cmp (key y) (key x) < 0:=by
  rcases List.eq_nil_or_concat L1 with e | ⟨L,b,e⟩
  ·subst e; simp
  ·have e':L1=L++[b]:=by simpa using e
   subst e'
   have hb:=h1 b (lastP_some L b none)
   intro y hy
   rcases List.mem_append.1 hy with hy | hy
   ·exact hc.trans _ _ _ ((List.pairwise_append.1 hs'.1).2.2 y hy b (by simp)) hb
   ·obtain rfl:y=b:=by simpa using hy
    exact hb
 refine srt_ext hc ?_ (srt_put hc hv) fun y=>?_
 ·refine List.pairwise_append.2 ⟨hs'.1,List.pairwise_cons.2 ⟨a2,hs'.2.1⟩,fun y hy z hz=>?_⟩
  rcases List.mem_cons.1 hz with rfl | hz
  ·exact a1 y hy
  ·exact hs'.2.2 y hy z hz
 ·rw [mem_put hc hv]
  have hm:y∈L1++L2↔(y∈v∧key y≠key x):=by rw [h]; simp
  rw [← hm]
  simp only [List.mem_append,List.mem_cons]
  constructor
  ·rintro (h | h | h)
   ·exact .inr (.inl h)
   ·exact .inl h
   ·exact .inr (.inr h)
  ·rintro (h | h | h)
   ·exact .inr (.inl h)
   ·exact .inl h
   ·exact .inr (.inr h)
theorem get_mem [DecidableEq κ] {l:List α} {k:κ} {a:α} (h:getA key l k=some a):a∈l∧key a=k:=by
 unfold getA at h
 exact ⟨List.mem_of_find?_eq_some h,by simpa using List.find?_some h⟩
theorem get_none [DecidableEq κ] {l:List α} {k:κ} (h:getA key l k=none):∀ a∈l,key a≠k:=by
 unfold getA at h
 rw [List.find?_eq_none] at h
 intro a ha e
 have:=h a ha
 simp [e] at this
theorem get_some [DecidableEq κ] (hc:Cmp cmp) {a:α}:∀ {l:List α},Srt cmp key l→a∈l→getA key l (key a)=some a
 | b::l,h,hm=>by
   rcases List.mem_cons.1 hm with rfl | hm
   ·simp [getA]
   ·have hne:¬ key b=key a:=fun e=>by have:=h.head hm; rw [e,hc.self] at this; omega
    have:=get_some hc h.tail hm
    simp only [getA,List.find?_cons,hne,decide_false] at this ⊢
    exact this
theorem get_iff [DecidableEq κ] (hc:Cmp cmp) {l:List α} (h:Srt cmp key l) {k:κ} {a:α}:getA key l k=some a↔a∈l∧key a=k :=
 ⟨get_mem,fun ⟨h1,h2⟩=>h2▸get_some hc h h1⟩
theorem get_put [DecidableEq κ] (hc:Cmp cmp) {l:List α} (h:Srt cmp key l) {x:α} {k:κ}:getA key (putA cmp key x l) k=if key x=k then some x else getA key l k:=by
 by_cases hk:key x=k
 ·rw [if_pos hk,get_iff hc (srt_put hc h),mem_put hc h]
  exact ⟨.inl rfl,hk⟩
 ·rw [if_neg hk]
  cases hg:getA key l k with
  | none =>
    cases hp:getA key (putA cmp key x l) k with
    | none=>rfl
    | some a =>
      obtain ⟨h1,h2⟩:=get_mem hp
      rcases (mem_put hc h).1 h1 with rfl | ⟨h3,_⟩
      ·exact (hk h2).elim
      ·exact (get_none hg a h3 h2).elim
  | some a =>
    obtain ⟨h1,h2⟩:=get_mem hg
    rw [get_iff hc (srt_put hc h),mem_put hc h]
    exact ⟨.inr ⟨h1,fun e=>hk (e▸h2)⟩,h2⟩
end
end Go.Evl.Zone

namespace Go.Evl.Zone
open Go Go.Evl
theorem cmp_neg {a b:Bytes} (h:cmpB a b < 0):0 < cmpB b a:=by
 rcases Int.lt_trichotomy (cmpB b a) 0 with k | k | k
 ·have:=cmp_trans _ _ _ h k
  rw [cmp_self] at this
  omega
 ·obtain rfl:=cmp_zero _ _ k
  rw [cmp_self] at h; omega
 ·exact k
theorem insB_perm (a:Bytes):∀ l,(insB a l).Perm (a::l)
 | []=>List.Perm.refl _
 | b::l=>by
   unfold insB
   split
   ·exact (List.Perm.cons b (insB_perm a l)).trans (List.Perm.swap a b l)
   ·exact List.Perm.refl _
theorem sortB_perm:∀ l,(sortB l).Perm l
 | []=>List.Perm.refl _
 | a::l=>(insB_perm a _).trans (List.Perm.cons a (sortB_perm l))
def leB (a b:Bytes):Prop:=¬ cmpB b a < 0
theorem insB_sorted (a:Bytes):∀ l,l.Pairwise leB→(insB a l).Pairwise leB
 | [],h=>by simp [insB]
 | b::l,h=>by
   have h1:=List.pairwise_cons.1 h
   unfold insB
   split
   ·rename_i hb
    refine List.pairwise_cons.2 ⟨fun c hc=>?_,insB_sorted a l h1.2⟩
    rcases List.mem_cons.1 ((insB_perm a l).mem_iff.1 hc) with rfl | hc
    ·intro k
     have h2:=cmp_neg hb
     have h3:cmpB b c < 0:=hb
     omega
    ·exact h1.1 c hc
   ·rename_i hb
    refine List.pairwise_cons.2 ⟨fun c hc=>?_,h⟩
    rcases List.mem_cons.1 hc with rfl | hc
    ·exact hb
    ·intro k
     have h2:=h1.1 c hc
     refine h2 ?_
     rcases Int.lt_trichotomy (cmpB b a) 0 with q | q | q
     ·exact (hb q).elim
     ·obtain rfl:=cmp_zero _ _ q; exact k
     ·exact cmp_trans _ _ _ k (cmp_anti _ _ q)
theorem sortB_sorted:∀ l,(sortB l).Pairwise leB
 | []=>List.Pairwise.nil
 | a::l=>insB_sorted a _ (sortB_sorted l)
theorem leB_anti {a b:Bytes} (h1:leB a b) (h2:leB b a):a=b:=by
 rcases Int.lt_trichotomy (cmpB a b) 0 with k | k | k
 ·exact (h2 k).elim
 ·exact cmp_zero _ _ k
 ·exact (h1 (cmp_anti _ _ k)).elim
theorem perm_sorted {α:Type} {le:α→α→Prop} (ha:∀ a b,le a b→le b a→a=b):∀ {l m:List α},l.Perm m→l.Pairwise le→m.Pairwise le→l=m
 | [],m,h,_,_=>by have:=h.length_eq; simp at this; exact (List.length_eq_zero_iff.1 this.symm).symm
 | a::l,[],h,_,_=>by have:=h.length_eq; simp at this
 | a::l,b::m,h,h1,h2=>by
   have h1':=List.pairwise_cons.1 h1
   have h2':=List.pairwise_cons.1 h2
   have e:a=b:=by
    have ma:a∈b::m:=h.mem_iff.1 (by simp)
    have mb:b∈a::l:=h.mem_iff.2 (by simp)
    rcases List.mem_cons.1 ma with q | q
    ·exact q
    ·rcases List.mem_cons.1 mb with q' | q'
     ·exact q'.symm
     ·exact ha _ _ (h1'.1 _ q') (h2'.1 _ q)
   subst e
   rw [perm_sorted ha (List.Perm.cons_inv h) h1'.2 h2'.2]
theorem insZ_perm (a:Int):∀ l,(insZ a l).Perm (a::l)
 | []=>List.Perm.refl _
 | b::l=>by
   unfold insZ
   split
   ·exact (List.Perm.cons b (insZ_perm a l)).trans (List.Perm.swap a b l)
   ·exact List.Perm.refl _
theorem sortZ_perm:∀ l,(sortZ l).Perm l
 | []=>List.Perm.refl _
 | a::l=>(insZ_perm a _).trans (List.Perm.cons a (sortZ_perm l))
theorem insZ_sorted (a:Int):∀ l,l.Pairwise (·≤·)→(insZ a l).Pairwise (·≤·)
 | [],h=>by simp [insZ]
 | b::l,h=>by
   have h1:=List.pairwise_cons.1 h
   unfold insZ
   split
   ·refine List.pairwise_cons.2 ⟨fun c hc=>?_,insZ_sorted a l h1.2⟩
    rcases List.mem_cons.1 ((insZ_perm a l).mem_iff.1 hc) with rfl | hc
    ·omega
    ·exact h1.1 c hc
   ·refine List.pairwise_cons.2 ⟨fun c hc=>?_,h⟩
    rcases List.mem_cons.1 hc with rfl | hc
    ·omega
    ·have:=h1.1 c hc
     omega
theorem sortZ_sorted:∀ l,(sortZ l).Pairwise (·≤·)
 | []=>List.Pairwise.nil
 | a::l=>insZ_sorted a _ (sortZ_sorted l)
end Go.Evl.Zone

namespace Go.Evl.Zone
open Go Go.Evl
structure Sp where
 u:Int
 x:List Int
deriving DecidableEq
def Sp.Has (s:Sp) (n:Int):Prop:=1≤n∧(n≤s.u∨n∈s.x)
instance (s:Sp) (n:Int):Decidable (s.Has n):=by unfold Sp.Has; exact inferInstance
structure Sp.wk (s:Sp):Prop where
 u0:0≤s.u
 u1:s.u≤1048576
 x0:∀ n∈s.x,1≤n
 x1:∀ n∈s.x,n≤1048576
structure Sp.ok (s:Sp):Prop extends Sp.wk s where
 srt:s.x.Pairwise (· < ·)
 gap:∀ n∈s.x,s.u+1 < n
theorem cmpI_lt {a b:Int}:cmpI a b < 0↔a < b:=by
 unfold cmpI
 split
 ·simp_all
 ·split <;> simp_all
theorem srtZ {l:List Int}:Srt cmpI (fun n:Int=>n) l↔l.Pairwise (· < ·):=by
 unfold Srt
 constructor
 ·exact List.Pairwise.imp fun h=>cmpI_lt.1 h
 ·exact List.Pairwise.imp fun h=>cmpI_lt.2 h
theorem srtZ_ext {l m:List Int} (hl:l.Pairwise (· < ·)) (hm:m.Pairwise (· < ·)) (h:∀ n,n∈l↔n∈m):l=m:=srt_ext cmpI_ok (srtZ.2 hl) (srtZ.2 hm) h
theorem Sp.u_le {s t:Sp} (hs:s.ok) (ht:t.ok) (h:∀ n,s.Has n→t.Has n):s.u≤t.u:=by
 rcases Int.lt_or_le t.u s.u with hlt | hle
 ·have h0:=ht.u0
  obtain ⟨_,h2⟩:=h (t.u+1) ⟨by omega,.inl (by omega)⟩
  rcases h2 with h2 | h2
  ·omega
  ·have:=ht.gap _ h2; omega
 ·exact hle
theorem Sp.ext_has {s t:Sp} (hs:s.ok) (ht:t.ok) (h:∀ n,s.Has n↔t.Has n):s=t:=by
 have hu:s.u=t.u:=by
  have h1:=Sp.u_le hs ht fun n=>(h n).1
  have h2:=Sp.u_le ht hs fun n=>(h n).2
  omega
 have hx:s.x=t.x:=by
  refine srtZ_ext hs.srt ht.srt fun n=>?_
  constructor
  ·intro hn
   obtain ⟨_,h2⟩:=(h n).1 ⟨hs.x0 n hn,.inr hn⟩
   have:=hs.gap n hn
   exact h2.resolve_left (by omega)
  ·intro hn
   obtain ⟨_,h2⟩:=(h n).2 ⟨ht.x0 n hn,.inr hn⟩
   have:=ht.gap n hn
   exact h2.resolve_left (by omega)
 cases s; cases t; simp_all
def foldU:Int→List Int→Sp
 | u,[]=>⟨u,[]⟩
 | u,n::l=>if n≤u+1 then foldU (max u n) l else ⟨u,n::l⟩
theorem foldU_ok:∀ (l:List Int) (u:Int),0≤u→u≤1048576→l.Pairwise (· < ·)→(∀ n∈l,n≤1048576)→(foldU u l).ok∧∀ n,(foldU u l).Has n↔1≤n∧(n≤u∨n∈l)
 | [],u,h0,h1,hs,ht=>⟨⟨⟨h0,h1,by simp [foldU],by simp [foldU]⟩,by simp [foldU],by simp [foldU]⟩,fun n=>by simp [foldU,Sp.Has]⟩
 | a::l,u,h0,h1,hs,ht=>by
   obtain ⟨hs1,hs2⟩:=List.pairwise_cons.1 hs
   have ha:=ht a (by simp)
   unfold foldU
   split
   ·rename_i hle
    obtain ⟨h2,h3⟩:=foldU_ok l (max u a) (by omega) (by omega) hs2 fun n hn=>ht n (by simp [hn])
    refine ⟨h2,fun n=>?_⟩
    rw [h3 n]
    simp only [List.mem_cons]
    constructor
    ·rintro ⟨p,q | q⟩
     ·refine ⟨p,?_⟩
      rcases Int.lt_or_le u n with h | h
      ·exact .inr (.inl (by omega))
      ·exact .inl h
     ·exact ⟨p,.inr (.inr q)⟩
    ·rintro ⟨p,q | q | q⟩
     ·exact ⟨p,.inl (by omega)⟩
     ·exact ⟨p,.inl (by omega)⟩
     ·exact ⟨p,.inr q⟩
   ·rename_i hle
    have hg:∀ n∈a::l,u+1 < n:=fun n hn=>by
     rcases List.mem_cons.1 hn with rfl | hn
     ·omega
     ·have:=hs1 n hn; omega
    exact ⟨⟨⟨h0,h1,fun n hn=>by have:=hg n hn; omega,ht⟩,hs,hg⟩,fun n=>Iff.rfl⟩
def dedZ:List Int→List Int
 | []=>[]
 | [a]=>[a]
 | a::b::l=>if a=b then dedZ (b::l) else a::dedZ (b::l)
theorem mem_dedZ {n:Int}:∀ l:List Int,n∈dedZ l↔n∈l
 | []=>Iff.rfl
 | [a]=>Iff.rfl
 | a::b::l=>by
   unfold dedZ
   split
   ·rename_i h
    rw [mem_dedZ (b::l),h]
    simp
   ·rw [List.mem_cons,mem_dedZ (b::l),← List.mem_cons]
theorem dedZ_srt:∀ l:List Int,l.Pairwise (·≤·)→(dedZ l).Pairwise (· < ·)
 | [],_=>List.Pairwise.nil
 | [a],_=>by simp [dedZ]
 | a::b::l,h=>by
   obtain ⟨h1,h2⟩:=List.pairwise_cons.1 h
   have ih:=dedZ_srt (b::l) h2
   unfold dedZ
   split
   ·exact ih
   ·rename_i hne
    refine List.pairwise_cons.2 ⟨fun c hc=>?_,ih⟩
    rw [mem_dedZ] at hc
    have hb:=h1 b (by simp)
    rcases List.mem_cons.1 hc with rfl | hc
    ·omega
    ·have:=(List.pairwise_cons.1 h2).1 c hc; omega
def uniS (a b:Sp):Sp:=foldU (max a.u b.u) (dedZ (sortZ (a.x++b.x)))
theorem uniS_ok {a b:Sp} (ha:a.wk) (hb:b.wk):(uniS a b).ok∧∀ n,(uniS a b).Has n↔a.Has n∨b.Has n:=by
 have hm:∀ n,n∈dedZ (sortZ (a.x++b.x))↔n∈a.x∨n∈b.x:=fun n=>by
  rw [mem_dedZ,(sortZ_perm _).mem_iff,List.mem_append]
 have h0:=ha.u0
 have h1:=ha.u1
 have h2:=hb.u0
 have h3:=hb.u1
 obtain ⟨k1,k2⟩:=foldU_ok (dedZ (sortZ (a.x++b.x))) (max a.u b.u) (by omega) (by omega) (dedZ_srt _ (sortZ_sorted _)) fun n hn=>by
  rcases (hm n).1 hn with h | h
  ·exact ha.x1 n h
  ·exact hb.x1 n h
 refine ⟨k1,fun n=>?_⟩
 unfold uniS
 rw [k2 n,hm n]
 unfold Sp.Has
 constructor
 ·rintro ⟨p,q | q | q⟩
  ·rcases Int.lt_or_le a.u n with h | h
   ·exact .inr ⟨p,.inl (by omega)⟩
   ·exact .inl ⟨p,.inl h⟩
  ·exact .inl ⟨p,.inr q⟩
  ·exact .inr ⟨p,.inr q⟩
 ·rintro (⟨p,q | q⟩ | ⟨p,q | q⟩)
  ·exact ⟨p,.inl (by omega)⟩
  ·exact ⟨p,.inr (.inl q)⟩
  ·exact ⟨p,.inl (by omega)⟩
  ·exact ⟨p,.inr (.inr q)⟩
def foldE:Int→List Int→Sp
 | u,[]=>⟨u,[]⟩
 | u,n::l=>if n=u+1 then foldE (u+1) l else ⟨u,n::l⟩
def insG (n:Int):List Int→List Int
 | []=>[n]
 | a::l=>if n < a then n::a::l else a::insG n l
def addR (s:Sp) (n:Int):Sp:=if n < 1∨1048576 < n∨s.Has n then s else foldE s.u (insG n s.x)
theorem mem_insG {n m:Int}:∀ l:List Int,m∈insG n l↔m=n∨m∈l
 | []=>by simp [insG]
 | a::l=>by
   unfold insG
   split
   ·simp
   ·rw [List.mem_cons,mem_insG l,List.mem_cons]
    constructor
    ·rintro (h | h | h) <;> simp [h]
    ·rintro (h | h | h) <;> simp [h]
theorem insG_srt {n:Int}:∀ l:List Int,l.Pairwise (· < ·)→n∉l→(insG n l).Pairwise (· < ·)
 | [],_,_=>by simp [insG]
 | a::l,h,hn=>by
   obtain ⟨h1,h2⟩:=List.pairwise_cons.1 h
   simp only [List.mem_cons,not_or] at hn
   unfold insG
   split
   ·refine List.pairwise_cons.2 ⟨fun c hc=>?_,h⟩
    rcases List.mem_cons.1 hc with rfl | hc
    ·assumption
    ·have:=h1 c hc; omega
   ·refine List.pairwise_cons.2 ⟨fun c hc=>?_,insG_srt l h2 hn.2⟩
    rcases (mem_insG l).1 hc with rfl | hc
    ·omega
    ·exact h1 c hc
theorem foldE_U:∀ (l:List Int) (u:Int),l.Pairwise (· < ·)→(∀ n∈l,u < n)→foldE u l=foldU u l
 | [],u,_,_=>rfl
 | a::l,u,hs,hu=>by
   obtain ⟨h1,h2⟩:=List.pairwise_cons.1 hs
   have ha:=hu a (by simp)
   unfold foldE foldU
   by_cases h:a=u+1
   ·rw [if_pos h,if_pos (by omega),show max u a=u+1 by omega]
    exact foldE_U l (u+1) h2 fun n hn=>by have:=h1 n hn; omega
   ·rw [if_neg h,if_neg (by omega)]
theorem addR_ok {s:Sp} {n:Int} (hs:s.ok):(addR s n).ok∧∀ m,(addR s n).Has m↔s.Has m∨(m=n∧1≤n∧n≤1048576):=by
 unfold addR
 split
 ·rename_i h
  refine ⟨hs,fun m=>⟨.inl,?_⟩⟩
  rintro (h' | ⟨rfl,h1,h2⟩)
  ·exact h'
  ·rcases h with h | h | h
   ·omega
   ·omega
   ·exact h
 ·rename_i h
  simp only [not_or,Int.not_lt] at h
  obtain ⟨h1,h2,h3⟩:=h
  have hn:n∉s.x:=fun hx=>h3 ⟨h1,.inr hx⟩
  have hu:s.u < n:=by
   rcases Int.lt_or_le s.u n with h | h
   ·exact h
   ·exact absurd ⟨h1,.inl h⟩ h3
  have hsr:=insG_srt s.x hs.srt hn
  rw [foldE_U _ _ hsr fun m hm=>by
   rcases (mem_insG _).1 hm with rfl | hm
   ·exact hu
   ·have:=hs.gap m hm; omega]
  obtain ⟨k1,k2⟩:=foldU_ok (insG n s.x) s.u hs.u0 hs.u1 hsr fun m hm=>by
   rcases (mem_insG _).1 hm with rfl | hm
   ·exact h2
   ·exact hs.x1 m hm
  refine ⟨k1,fun m=>?_⟩
  rw [k2 m,mem_insG]
  unfold Sp.Has
  constructor
  ·rintro ⟨p,q | rfl | q⟩
   ·exact .inl ⟨p,.inl q⟩
   ·exact .inr ⟨rfl,h1,h2⟩
   ·exact .inl ⟨p,.inr q⟩
  ·rintro (⟨p,q | q⟩ | ⟨rfl,_,_⟩)
   ·exact ⟨p,.inl q⟩
   ·exact ⟨p,.inr (.inr q)⟩
   ·exact ⟨h1,.inr (.inl rfl)⟩
theorem foldl_addR:∀ (l:List Int) (s:Sp),s.ok→(l.foldl addR s).ok∧∀ m,(l.foldl addR s).Has m↔s.Has m∨(m∈l∧1≤m∧m≤1048576)
 | [],s,hs=>⟨hs,fun m=>by simp⟩
 | a::l,s,hs=>by
   obtain ⟨h1,h2⟩:=addR_ok (n:=a) hs
   obtain ⟨k1,k2⟩:=foldl_addR l (addR s a) h1
   refine ⟨k1,fun m=>?_⟩
   rw [List.foldl_cons,k2 m,h2 m,List.mem_cons]
   constructor
   ·rintro ((h | ⟨rfl,h⟩) | ⟨h,h'⟩)
    ·exact .inl h
    ·exact .inr ⟨.inl rfl,h⟩
    ·exact .inr ⟨.inr h,h'⟩
   ·rintro (h | ⟨rfl | h,h'⟩)
    ·exact .inl (.inl h)
    ·exact .inl (.inr ⟨rfl,h'⟩)
    ·exact .inr ⟨h,h'⟩
def uniR (a b:Sp):Sp:=if a.u < b.u then (b.x++a.x).foldl addR ⟨b.u,[]⟩ else (a.x++b.x).foldl addR ⟨a.u,[]⟩
theorem nil_ok {u:Int} (h0:0≤u) (h1:u≤1048576):(Sp.mk u []).ok:=⟨⟨h0,h1,by simp,by simp⟩,by simp,by simp⟩
theorem uniR_eq {a b:Sp} (ha:a.wk) (hb:b.wk):uniR a b=uniS a b:=by
 obtain ⟨k1,k2⟩:=uniS_ok ha hb
 unfold uniR
 split
 ·rename_i h
  obtain ⟨j1,j2⟩:=foldl_addR (b.x++a.x) ⟨b.u,[]⟩ (nil_ok hb.u0 hb.u1)
  refine Sp.ext_has j1 k1 fun n=>?_
  rw [j2 n,k2 n,List.mem_append]
  unfold Sp.Has
  have a0:=ha.x0 n
  have a1:=ha.x1 n
  have b0:=hb.x0 n
  have b1:=hb.x1 n
  constructor
  ·rintro (⟨p,q | q⟩ | ⟨q | q,_,_⟩)
   ·exact .inr ⟨p,.inl q⟩
   ·simp at q
   ·exact .inr ⟨b0 q,.inr q⟩
   ·exact .inl ⟨a0 q,.inr q⟩
  ·rintro (⟨p,q | q⟩ | ⟨p,q | q⟩)
   ·exact .inl ⟨p,.inl (by simp only; omega)⟩
   ·exact .inr ⟨.inr q,a0 q,a1 q⟩
   ·exact .inl ⟨p,.inl q⟩
   ·exact .inr ⟨.inl q,b0 q,b1 q⟩
 ·rename_i h
  obtain ⟨j1,j2⟩:=foldl_addR (a.x++b.x) ⟨a.u,[]⟩ (nil_ok ha.u0 ha.u1)
  refine Sp.ext_has j1 k1 fun n=>?_
  rw [j2 n,k2 n,List.mem_append]
  unfold Sp.Has
  have a0:=ha.x0 n
  have a1:=ha.x1 n
  have b0:=hb.x0 n
  have b1:=hb.x1 n
  constructor
  ·rintro (⟨p,q | q⟩ | ⟨q | q,_,_⟩)
   ·exact .inl ⟨p,.inl q⟩
   ·simp at q
   ·exact .inl ⟨a0 q,.inr q⟩
   ·exact .inr ⟨b0 q,.inr q⟩
  ·rintro (⟨p,q | q⟩ | ⟨p,q | q⟩)
   ·exact .inl ⟨p,.inl q⟩
   ·exact .inr ⟨.inl q,a0 q,a1 q⟩
   ·exact .inl ⟨p,.inl (by simp only; omega)⟩
   ·exact .inr ⟨.inr q,b0 q,b1 q⟩
def addS (s:Sp) (n:Int):Sp:=if n < 1∨1048576 < n then s else uniS s ⟨0,[n]⟩
theorem one_wk {n:Int} (h1:1≤n) (h2:n≤1048576):(Sp.mk 0 [n]).wk:=⟨by simp,by simp,by simp; omega,by simp; omega⟩
theorem addR_eq {s:Sp} {n:Int} (hs:s.ok):addR s n=addS s n:=by
 unfold addS
 split
 ·rename_i h
  unfold addR
  rw [if_pos (by rcases h with h | h; exact .inl h; exact .inr (.inl h))]
 ·rename_i h
  simp only [not_or,Int.not_lt] at h
  obtain ⟨h1,h2⟩:=addR_ok (n:=n) hs
  obtain ⟨k1,k2⟩:=uniS_ok hs.towk (one_wk h.1 h.2)
  refine Sp.ext_has h1 k1 fun m=>?_
  rw [h2 m,k2 m]
  constructor
  ·rintro (p | ⟨rfl,p,q⟩)
   ·exact .inl p
   ·exact .inr ⟨p,.inr (by simp)⟩
  ·rintro (p | ⟨p,q | q⟩)
   ·exact .inl p
   ·simp only at q; omega
   ·simp only [List.mem_singleton] at q
    exact .inr ⟨q,h.1,h.2⟩
def subS (a b:Sp):Bool:=decide (uniS a b=b)
theorem subS_iff {a b:Sp} (ha:a.wk) (hb:b.ok):subS a b=true↔∀ n,a.Has n→b.Has n:=by
 obtain ⟨k1,k2⟩:=uniS_ok ha hb.towk
 unfold subS
 rw [decide_eq_true_eq]
 constructor
 ·intro h n hn
  rw [← h,k2 n]
  exact .inl hn
 ·intro h
  refine Sp.ext_has k1 hb fun n=>?_
  rw [k2 n]
  exact ⟨fun p=>p.elim (h n) id,.inr⟩
end Go.Evl.Zone

namespace Go.Evl.Zone
open Go Go.Evl
variable {P:Program}
theorem srt_mono {α:Type} {key:α→Bytes} {l:List α} (h:Srt cmpB key l) (a:Bytes):Mono (fun q=>cmpB (key q) a) l:=Srt.mono cmpB_ok a h
theorem vecFind_ans (T:TB P) {v:List At} {a:Bytes} (hv:Srt cmpB At.id v) (hL:v.length≤most):ans (env P) 167 [lv v,sv a]=some (.tup [iv (lbN (fun q=>cmpB q.id a) v),bv (fnd (fun q=>cmpB q.id a) v)]):=by
 have h:=bs_ans (F:=205) (G:=206) (enc:=fun q:At=>Enc.c q) (tc:=Enc.c (⟨a,0⟩:At)) (c:=fun q=>cmpB q.id a) (l:=v) (k:=2) T rfl rfl rfl (by decide) (fun _=>rfl) rfl (fun _ _=>rfl) (fun _=>rfl) rfl (fun q _=>vecOrder_ans) (srt_mono hv a) hL
 simp only [Enc.c] at h
 refine ans_V rfl rfl ?_
 simp [c167,resV,resP]
 simp [En,Enc.c,h,resV,resP]
theorem knowFind_ans (T:TB P) {v:List KRow} {a:Bytes} (hv:Srt cmpB KRow.id v) (hL:v.length≤most):ans (env P) 139 [lv v,sv a]=some (.tup [iv (lbN (fun q=>cmpB q.id a) v),bv (fnd (fun q=>cmpB q.id a) v)]):=by
 have h:=bs_ans (F:=187) (G:=188) (enc:=fun q:KRow=>Enc.c q) (tc:=Enc.c (⟨a,0,[]⟩:KRow)) (c:=fun q=>cmpB q.id a) (l:=v) (k:=3) T rfl rfl rfl (by decide) (fun _=>rfl) rfl (fun _ _=>rfl) (fun _=>rfl) rfl (fun q _=>knowOrder_ans) (srt_mono hv a) hL
 simp only [Enc.c,lv,En_nil] at h
 refine ans_V rfl rfl ?_
 simp [c139,En,Enc.c,h,resV,resP]
theorem matFind_ans (T:TB P) {v:List MRow} {a:Bytes} (hv:Srt cmpB MRow.id v) (hL:v.length≤most):ans (env P) 152 [lv v,sv a]=some (.tup [iv (lbN (fun q=>cmpB q.id a) v),bv (fnd (fun q=>cmpB q.id a) v)]):=by
 have h:=bs_ans (F:=197) (G:=198) (enc:=fun q:MRow=>Enc.c q) (tc:=Enc.c (⟨a,[]⟩:MRow)) (c:=fun q=>cmpB q.id a) (l:=v) (k:=2) T rfl rfl rfl (by decide) (fun _=>rfl) rfl (fun _ _=>rfl) (fun _=>rfl) rfl (fun q _=>matOrder_ans) (srt_mono hv a) hL
 simp only [Enc.c,lv,En_nil] at h
 refine ans_V rfl rfl ?_
 simp [c152,En,Enc.c,h,resV,resP]
def it0c (k:Int):List PV:=[iv k,.val (.string ⟨#[]⟩),iv 0,iv 0,bv false,.val (.complex .f64 0 0),.val (.string ⟨#[]⟩),bv false]
theorem it0c_is (k:Int):it0c k=itP ⟨k,[],0,0,false,0,0,[],false⟩:=by
 have e0:FloatKind.f64.nearest 0=0:=near0
 simp only [it0c,itP,cw,fw,e0]
theorem storeFind_ans (T:TB P) {v:List Item} {k:Int} (hv:Srt cmpI Item.key v) (hL:v.length≤most):ans (env P) 138 [lvP v,iv k]=some (.tup [iv (lbN (fun q=>cmpI q.key k) v),bv (fnd (fun q=>cmpI q.key k) v)]):=by
 have h:=bs_ans (F:=185) (G:=186) (enc:=itP) (tc:=it0c k) (c:=fun q=>cmpI q.key k) (l:=v) (k:=8) T rfl rfl rfl (by decide) (fun _=>rfl) rfl (fun _ _=>rfl) (fun _=>rfl) rfl (fun q _=>storeOrder_ans (b:=⟨k,[],0,0,false,0,0,[],false⟩) (it0c_is k)) (Srt.mono cmpI_ok k hv) hL
 unfold it0c at h
 refine ans_V rfl rfl ?_
 simp [c138,EnP,h,resV,resP]
theorem minI {t:TypeId} {ts:Array TypeId} {a b:Int}:evFun P .min ts t [.int .i64 a,.int .i64 b]=some (iv (min a b)):=by
 have:evFun P .min ts t [.int .i64 a,.int .i64 b]=some (.val (.int .i64 (if b < a then b else a))):=rfl
 rw [this]
 congr 3
 omega
theorem maxI {t:TypeId} {ts:Array TypeId} {a b:Int}:evFun P .max ts t [.int .i64 a,.int .i64 b]=some (iv (max a b)):=by
 have:evFun P .max ts t [.int .i64 a,.int .i64 b]=some (.val (.int .i64 (if b > a then b else a))):=rfl
 rw [this]
 congr 3
 omega
def ofV (v:List At) (a:Bytes):Int:=match getA At.id v a with
 | some x=>x.n
 | none=>0
theorem vecOf_ans (T:TB P) {v:List At} {a:Bytes} (hv:Srt cmpB At.id v) (hL:v.length≤most):ans (env P) 108 [lv v,sv a]=some (iv (ofV v a)):=by
 have hf:=vecFind_ans T (a:=a) hv hL
 have hg:=get_fnd (key:=At.id) cmpB_ok a hv
 unfold ofV
 cases hga:getA At.id v a with
 | none =>
   rw [hga] at hg
   simp only at hg
   rw [hg] at hf
   refine ans_V rfl rfl ?_
   simp [c108,hf]
 | some x =>
   rw [hga] at hg
   obtain ⟨h1,h2⟩:=hg
   rw [h2] at hf
   have hlt:lbN (fun q=>cmpB q.id a) v < v.length:=(List.getElem?_eq_some_iff.1 h1).1
   have hx:=En_at h1
   refine ans_V rfl rfl ?_
   simp [c108,hf,hlt,hx,Enc.c]
end Go.Evl.Zone

namespace Go.Evl.Zone
open Go Go.Evl
variable {P:Program}
structure LN (N:Nat) (H:Heap) (k:Nat) (v:PV) (ys:List (List PV)):Prop where
 l:Lst H k v ys
 b:∀ r k' g off len,v = .sl r k' g off len→N≤r
theorem LN.nil {N:Nat} {H:Heap} {k:Nat}:LN N H k (.im [] true) []:=⟨Lst.nil,by intros; simp_all⟩
theorem LN.ext {N:Nat} {H H':Heap} {k:Nat} {v:PV} {ys:List (List PV)} (h:LN N H k v ys) (e:Gr H H'):LN N H' k v ys:=⟨h.l.ext e,h.b⟩
theorem LN.grow {N m:Nat} {H:Heap} {k:Nat} {v:PV} {ys:List (List PV)} (h:LN N H k v ys):LN N (H.grow m) k v ys:=⟨h.l.grow,h.b⟩
theorem LN.putN {N s:Nat} {H:Heap} {k:Nat} {v:PV} {ys:List (List PV)} {b:Blk} (h:LN N H k v ys) (hs:H.at_ s = .dead∨∃ cs,H.at_ s = .box cs):LN N (H.put s b) k v ys:=⟨h.l.putN hs,h.b⟩
theorem LN.app {N:Nat} {H:Heap} {slot k:Nat} {v:PV} {ys zs:List (List PV)} (h:LN N H k v ys) (hd:H.at_ slot = .dead) (hs:slot < H.n) (hN:N≤slot) (hz:allLen k zs=true) (hm:ys.length+zs.length≤most) :
  ∃ (v':PV) (H':Heap) (wr rd:List Nat),appendP H slot k v zs=some (v',H',wr,rd)∧LN N H' k v' (ys++zs)∧H'.n=H.n∧(∀ i cs,H.at_ i = .box cs→H'.at_ i = .box cs)∧(∀ i,i < N→H'.at_ i=H.at_ i)∧(∀ i∈wr,N≤i):=by
 have hl:=h.l
 obtain ⟨v',H',wr,rd,e,e1,e2,e3,_,_⟩:=hl.app hd hs hz hm
 have key:(∀ r k' g off len,v' = .sl r k' g off len→N≤r)∧(∀ i,i < N→H'.at_ i=H.at_ i)∧(∀ i∈wr,N≤i):=by
  unfold appendP at e
  split at e
  ·split at e <;> simp at e
   ·obtain ⟨rfl,rfl,rfl,_⟩:=e; exact ⟨h.b,fun _ _=>rfl,by simp⟩
   ·obtain ⟨rfl,rfl,rfl,_⟩:=e; exact ⟨h.b,fun _ _=>rfl,by simp⟩
  ·split at e
   ·split at e
    ·simp at e
     obtain ⟨rfl,rfl,rfl,_⟩:=e
     refine ⟨?_,?_,?_⟩
     ·intro r k' g off len q; simp at q; omega
     ·intro i hi; simp only [at_put]; rw [if_neg (by omega)]
     ·intro i hi; simp at hi; omega
    ·simp at e
   ·rename_i r k' g off len
    have hr:=h.b r k' g off len rfl
    split at e
    ·split at e
     ·split at e
      ·simp at e
       obtain ⟨rfl,rfl,rfl,_⟩:=e
       refine ⟨?_,?_,?_⟩
       ·intro r2 k2 g2 o2 l2 q; simp at q; omega
       ·intro i hi; simp only [at_put]; rw [if_neg (by omega)]
       ·intro i hi; simp at hi; omega
      ·split at e
       ·simp at e
        obtain ⟨rfl,rfl,rfl,_⟩:=e
        refine ⟨?_,?_,?_⟩
        ·intro r2 k2 g2 o2 l2 q; simp at q; omega
        ·intro i hi; simp only [at_put]; rw [if_neg (by omega)]
        ·intro i hi; simp at hi; omega
       ·simp at e
     ·simp at e
    ·simp at e
   ·simp at e
 exact ⟨v',H',wr,rd,e,⟨e1,key.1⟩,e2,e3,key.2.1,key.2.2⟩
theorem VP_appN {E:Env} {f:FuncId} {N:Nat} {H:Heap} {slot k:Nat} {v:PV} {ys zs:List (List PV)} {G:PV × Heap × List Nat × List Nat→Option ORes} {dst:Option Nat} {rest:List CI} {i slot':Nat} {st:St} {log:Log} {d:Dr} {ks:List Fr'} {K:Ex→St→Prop}
  (hl:LN N H k v ys) (hd:H.at_ slot = .dead) (hs:slot < H.n) (hN:N≤slot) (hz:allLen k zs=true) (hm:ys.length+zs.length≤most)
  (h:∀ v' H' wr rd,LN N H' k v' (ys++zs)→H'.n=H.n→(∀ i cs,H.at_ i = .box cs→H'.at_ i = .box cs)→(∀ i,i < N→H'.at_ i=H.at_ i)→(∀ i∈wr,N≤i)→VP E f (G (v',H',wr,rd)) dst rest i slot' st log d ks K):VP E f (ob (appendP H slot k v zs) G) dst rest i slot' st log d ks K:=by
 obtain ⟨v',H',wr,rd,e1,e2,e3,e4,e5,e6⟩:=hl.app hd hs hN hz hm
 rw [e1]
 exact h v' H' wr rd e2 e3 e4 e5 e6
def Rd (res:List CR) (H:Heap) (K:PV→Heap→List Nat→Prop) (s:St):Prop:=∃ v,(∃ is,(resV s res).bind (expV s.h)=some (v,is))∧flatV v=true∧(∀ i,i < H.n→s.h.at_ i=H.at_ i)∧(∀ i∈s.wl,H.n≤i)∧K v H []
theorem Rd.mk {res:List CR} {H:Heap} {K:PV→Heap→List Nat→Prop} {s:St} (v:PV) (h:∃ is,(resV s res).bind (expV s.h)=some (v,is)) (hf:flatV v=true) (hh:∀ i,i < H.n→s.h.at_ i=H.at_ i) (hw:∀ i∈s.wl,H.n≤i) (hk:K v H []):Rd res H K s:=⟨v,h,hf,hh,hw,hk⟩
theorem IC_rd {E:Env} {g:FuncId} {cf:CF} {as1:List PV} {H:Heap} {K:PV→Heap→List Nat→Prop} (hp:∀ c,E.prim c g=none) (hc:E.tab g=some cf) (h:V E g cf.body ⟨start as1,H,[]⟩ [] fun _ s=>Rd cf.res H K s):IC E g as1 H K:=IC_read hp hc h
end Go.Evl.Zone

namespace Go.Evl.Zone
open Go Go.Evl
variable {P:Program}
abbrev spV (s:Sp):List PV:=[iv s.u,lv s.x]
theorem r2Has_loop {s:Sp} {v:List Int} {n:Int} (hv:s.x=v) {ks:List Fr'} {K:Ex→St→Prop} (hL:v.length≤most):∀ (rest:List Int) (i:Nat) (st:St),v.drop i=rest→i≤v.length→(∃ p,st.σ 2 = .ptr p 0∧st.h.at_ p = .box (spV s)∧p < st.h.n)→st.σ 1=iv n→st.σ 5=iv i →
  (∀ st',n∈rest→st'.σ 4=bv true→K .ret st')→(∀ st',n∉rest→VN (env P) 155 st' ks K)→V (env P) 155 (.loop L155_0) st (.blk 0::ks) K
 | [],i,st,hr,hile,⟨p0,hb,hp0,hpn⟩,h1,hi,hret,hend=>by
   obtain ⟨hii,hlt,hd⟩:=drop_nil hr hile
   rw [V_loop]
   simp [L155_0,hb,hp0,hpn,h1,hi,hlt,hv]
   exact hend _ (by simp)
 | q::rest,i,st,hr,hile,⟨p0,hb,hp0,hpn⟩,h1,hi,hret,hend=>by
   obtain ⟨hq,hlt,hr',_⟩:=drop_cons hr
   have hc:=En_at hq
   have hw:=wrapS (i:=i) (by unfold most at hL; omega)
   rw [V_loop]
   by_cases e:q=n
   ·simp [L155_0,hb,hp0,hpn,h1,hi,hlt,hc,hw,hv,e]
    exact hret _ (by simp [e]) (by simp)
   ·simp [L155_0,hb,hp0,hpn,h1,hi,hlt,hc,hw,hv,e]
    exact r2Has_loop (n:=n) hv hL rest (i+1) _ hr' (by omega) ⟨p0,by simp [hb],by simp [hp0,hpn],by simp; omega⟩ (by simp [h1]) (by simp) (fun st' h=>hret st' (by simp [h])) (fun st' h=>hend st' (by simp [h]; exact fun h'=>e h'.symm))
theorem r2Has_ans {s:Sp} {n:Int} (hx:∀ m∈s.x,1≤m) (hL:s.x.length≤most):ans (env P) 155 [.agg (spV s),iv n]=some (bv (decide (s.Has n))):=by
 refine ans_V rfl rfl ?_
 by_cases h1:1≤n
 ·by_cases h2:n≤s.u
  ·simp [c155,h1,h2,Sp.Has]
  ·simp [c155,h1,h2,Sp.Has]
   refine r2Has_loop (s:=s) (n:=n) rfl hL s.x 0 _ rfl (by omega) ⟨0,by simp,by simp,by simp⟩ (by simp) (by simp) ?_ ?_
   ·intro st' h3 h4
    simp [h3,h4]
   ·intro st' h3
    simp [h3]
 ·simp [c155,h1,Sp.Has]
  refine r2Has_loop (s:=s) (n:=n) rfl hL s.x 0 _ rfl (by omega) ⟨0,by simp,by simp,by simp⟩ (by simp) (by simp) ?_ ?_
  ·intro st' h3 h4
   exact absurd (hx n h3) h1
  ·intro st' h3
   simp [h3]
theorem r2Add_loop {n:Int} {s:Sp} {v:List Int} (hv:s.x=v) {T:List Int} {ks:List Fr'} {K:Ex→St→Prop} (hL:v.length < most):∀ (rest:List Int) (i:Nat) (st:St) (x:PV) (L:List Int) (b:Bool),v.drop i=rest→i≤v.length→st.σ 2 = .ptr 0 0→st.h.at_ 0 = .box (spV s)→st.h.at_ 1 = .box [iv 0,.im [] true]→1 < st.h.n→st.σ 4 = .ptr 1 0→st.σ 1=iv n→st.σ 7=iv i→st.σ 5=x→st.σ 6=bv b→Lst st.h 1 x (En L)→L.length=(if b=true then i+1 else i)→(if b=true then L++rest else L++insG n rest)=T →
  (∀ st' x L b,st'.σ 2 = .ptr 0 0→st'.h.at_ 0 = .box (spV s)→st'.h.at_ 1 = .box [iv 0,.im [] true]→1 < st'.h.n→st'.σ 4 = .ptr 1 0→st'.σ 1=iv n→st'.σ 5=x→st'.σ 6=bv b→Lst st'.h 1 x (En L)→L.length≤v.length+1→(b=false→L.length≤v.length)→(if b=true then L else L++[n])=T→VN (env P) 163 st' ks K)→V (env P) 163 (.loop L163_0) st (.blk 0::ks) K
 | [],i,st,x,L,b,hr,hile,h2,hb0,hb1,hn,h4,h1,h7,h5,h6,hl,hle,hT,hend=>by
   obtain ⟨hii,hlt,hd⟩:=drop_nil hr hile
   have hn0:0 < st.h.n:=by omega
   rw [V_loop]
   simp [L163_0,h2,hb0,hn0,h7,hlt,hv]
   exact hend _ x L b (by simp [h2]) (by simp [hb0,hn0]) (by simp [hb1,hn]) (by simpa using hn) (by simp [h4]) (by simp [h1]) (by simp [h5]) (by simp [h6]) (by repeat (first | exact hl | refine Lst.grow ?_)) (by cases b <;> simp at hle <;> omega) (by intro e; subst e; simp at hle; omega) (by cases b <;> simpa [insG] using hT)
 | q::rest,i,st,x,L,b,hr,hile,h2,hb0,hb1,hn,h4,h1,h7,h5,h6,hl,hle,hT,hend=>by
   obtain ⟨hq,hlt,hr',_⟩:=drop_cons hr
   have hc:=En_at hq
   have hw:=wrapS (i:=i) (by unfold most at hL; omega)
   have hn0:0 < st.h.n:=by omega
   rw [V_loop]
   cases b with
   | true =>
     simp at hle
     simp [L163_0,h2,hb0,hn0,h7,h6,h5,h1,hlt,hc,hw,hv,chunks,elems,allLen]
     refine VP_app (ys:=En L) (by repeat (first | exact hl | refine Lst.grow ?_)) (by simp) (by simp) (by simp [allLen]) (by simp; omega) fun v' H' wr rd e1 e2 e3=>?_
     have f0:=e3 0 (spV s) (by simp [hb0,hn0,show ¬ (0=st.h.n) by omega,show 0 < st.h.n+1 by omega])
     have f1:=e3 1 [iv 0,.im [] true] (by simp [hb1,hn,show 1 < st.h.n+1 by omega])
     simp [h7,hw,e2]
     refine r2Add_loop (n:=n) hv hL rest (i+1) _ v' (L++[q]) true hr' (by omega) (by simp [h2]) (by simp [f0,e2]) (by simp [f1,e2,hn,show 1 < st.h.n+1 by omega]) (by simp [e2]; omega) (by simp [h4]) (by simp [h1]) (by simp) (by simp) (by simp [h6]) (by rw [En_append,En_one]; repeat (first | exact e1 | refine Lst.grow ?_)) (by simp; omega) (by simpa using hT) hend
   | false =>
     simp at hle hT
     by_cases hlt2:n < q
     ·simp [L163_0,h2,hb0,hn0,h7,h6,h5,h1,hlt,hc,hw,hv,chunks,elems,allLen,hlt2]
      refine VP_app (ys:=En L) (by repeat (first | exact hl | refine Lst.grow ?_)) (by simp) (by simp) (by simp [allLen]) (by simp; omega) fun v1 H1 wr1 rd1 e1 e2 e3=>?_
      have f0:=e3 0 (spV s) (by simp [hb0,hn0,show ¬ (0=st.h.n) by omega,show 0 < st.h.n+1 by omega])
      have f1:=e3 1 [iv 0,.im [] true] (by simp [hb1,hn,show 1 < st.h.n+1 by omega])
      have hl1:Lst H1 1 v1 (En (L++[n])):=by rw [En_append,En_one]; exact e1
      have hq0:0 < H1.n:=by rw [e2]; simp
      simp [h2,f0,h7,h1,hw,e2,hlt,hc,hv,chunks,elems,allLen]
      refine VP_app (ys:=En (L++[n])) (by repeat (first | exact hl1 | refine Lst.grow ?_)) (by simp [e2]) (by simp [e2]) (by simp [allLen]) (by simp; omega) fun v' H' wr rd e1' e2' e3'=>?_
      have g0:=e3' 0 (spV s) (by simp [f0,hn0,e2,show 0 < st.h.n+1 by omega])
      have g1:=e3' 1 [iv 0,.im [] true] (by simp [f1,hn,e2,show 1 < st.h.n+1 by omega])
      simp [h7,hw,e2',e2]
      refine r2Add_loop (n:=n) hv hL rest (i+1) _ v' (L++[n]++[q]) true hr' (by omega) (by simp [h2]) (by simp [g0,e2',e2]) (by simp [g1,e2',e2,hn,show 1 < st.h.n+1 by omega]) (by simp [e2',e2] <;> omega) (by simp [h4]) (by simp [h1]) (by simp) (by simp) (by simp [h6]) (by rw [En_append,En_one]; repeat (first | exact e1' | refine Lst.grow ?_)) (by simp [hle]) (by simpa [insG,hlt2] using hT) hend
     ·simp [L163_0,h2,hb0,hn0,h7,h6,h5,h1,hlt,hc,hw,hv,chunks,elems,allLen,hlt2]
      refine VP_app (ys:=En L) (by repeat (first | exact hl | refine Lst.grow ?_)) (by simp) (by simp) (by simp [allLen]) (by simp; omega) fun v' H' wr rd e1 e2 e3=>?_
      have f0:=e3 0 (spV s) (by simp [hb0,hn0,show ¬ (0=st.h.n) by omega,show 0 < st.h.n+1 by omega])
      have f1:=e3 1 [iv 0,.im [] true] (by simp [hb1,hn,show 1 < st.h.n+1 by omega])
      simp [h7,hw,e2]
      refine r2Add_loop (n:=n) hv hL rest (i+1) _ v' (L++[q]) false hr' (by omega) (by simp [h2]) (by simp [f0,e2]) (by simp [f1,e2,hn,show 1 < st.h.n+1 by omega]) (by simp [e2]; omega) (by simp [h4]) (by simp [h1]) (by simp) (by simp) (by simp [h6]) (by rw [En_append,En_one]; repeat (first | exact e1 | refine Lst.grow ?_)) (by simp; omega) (by simpa [insG,hlt2] using hT) hend
inductive Vw (H:Heap) (v:PV) (ys:List Int):Prop where
 | im (b:Bool) (hv:v = .im (En ys) b)
 | sl (r:Nat) (xs:List (List PV)) (off:Nat) (hv:v = .sl r 1 xs.length off ys.length) (hb:H.at_ r = .row 1 xs true) (hle:off+ys.length≤xs.length) (he:(xs.drop off).take ys.length=En ys) (hr:r < H.n)
theorem lst_vw {H:Heap} {v:PV} {ys:List Int} (h:Lst H 1 v (En ys)):Vw H v ys:=by
 cases h with
 | im hv hl=>exact .im true hv
 | row r xs hv hb hle he hr hl=>exact .sl r xs 0 (by simpa using hv) hb (by simpa using hle) (by simpa using he) hr
theorem Vw.grow {H:Heap} {m:Nat} {v:PV} {ys:List Int} (h:Vw H v ys):Vw (H.grow m) v ys:=by
 cases h with
 | im b hv=>exact .im b hv
 | sl r xs off hv hb hle he hr=>exact .sl r xs off hv (by simp [hb,hr]) hle he (by simp; omega)
theorem Vw.elems {H:Heap} {v:PV} {ys:List Int} (h:Vw H v ys):∃ is,Evl.elems H 1 v=some (En ys,is):=by
 cases h with
 | im b hv=>subst hv; exact ⟨[],by simp [Evl.elems]⟩
 | sl r xs off hv hb hle he hr =>
   subst hv
   refine ⟨[r],?_⟩
   simp [Evl.elems,hb,hle,he]
theorem Vw.drop1 {H:Heap} {v:PV} {a:Int} {l:List Int} (h:Vw H v (a::l)):∃ v' is,sliceP H 1 v (some 1) none none=some (v',is)∧Vw H v' l:=by
 cases h with
 | im b hv =>
   subst hv
   refine ⟨.im (En l) b,[],?_,.im b rfl⟩
   simp [sliceP,En_cons,allLen]
   have:=List.take_length (l:=En l)
   simpa using this
 | sl r xs off hv hb hle he hr =>
   subst hv
   simp at hle
   by_cases h0:l=[]
   ·subst h0
    refine ⟨.im [] false,[r],?_,.im false rfl⟩
    simp at hle
    simp [sliceP,hb,hle]
   ·have hl:l.length≠0:=fun h=>h0 (List.length_eq_zero_iff.1 h)
    refine ⟨.sl r 1 xs.length (off+1) l.length,[r],?_,.sl r xs (off+1) rfl hb (by omega) ?_ hr⟩
    ·simp [sliceP,hb,hle,show ¬ 1=l.length+1 by omega,show off+(l.length+1)≤xs.length by omega]
     omega
    ·have:((xs.drop off).take (l.length+1)).drop 1=(En (a::l)).drop 1:=by
      have:=congrArg (List.drop 1) he
      simpa using this
     rw [← List.drop_drop]
     simpa [List.drop_take,En_cons] using this
theorem Vw.head {H:Heap} {r:Nat} {xs:List (List PV)} {off:Nat} {a:Int} {l:List Int} (hle:off+(a::l).length≤xs.length) (he:(xs.drop off).take (a::l).length=En (a::l)):loadR (.row 1 xs true) r 1 xs.length off 0 1=some ([iv a],[r]):=by
 rw [loadR_row ⟨rfl,rfl⟩]
 have hx:xs[off]?=some [iv a]:=by
  have:=congrArg (fun z=>z[0]?) he
  simp [List.getElem?_take,En_cons] at this
  simpa using this
 rw [hx]
 rfl
theorem r2Fold_loop {n:Int} {s:Sp} {ks:List Fr'} {K:Ex→St→Prop}:∀ (l:List Int) (u:Int) (st:St) (v:PV),u≤1048576→0≤u→(∀ m∈l,m≤1048576)→st.σ 4 = .ptr 1 0→st.h.at_ 1 = .box [iv 0,.im [] true]→1 < st.h.n→st.σ 8=iv u→st.σ 5=v→Vw st.h v l →
  (∀ st' v',st'.σ 4 = .ptr 1 0→st'.h.at_ 1 = .box [iv 0,.im [] true]→1 < st'.h.n→st'.σ 8=iv (foldE u l).u→st'.σ 5=v'→Vw st'.h v' (foldE u l).x→VN (env P) 163 st' ks K)→V (env P) 163 (.loop L163_1) st (.blk 2::ks) K
 | [],u,st,v,hu,hu0,ht,h4,hb1,hn,h8,h5,hv,hend=>by
   have hlen:lenP false v=some 0:=by
    cases hv with
    | im b hv=>subst hv; rfl
    | sl r xs off hv hb hle he hr=>subst hv; rfl
   rw [V_loop]
   simp [L163_1,h5,hlen]
   exact hend _ v (by simp [h4]) (by simp [hb1,hn]) (by simpa using hn) (by simp [h8,foldE]) (by simp [h5]) (by simpa [foldE] using hv.grow)
 | a::l,u,st,v,hu,hu0,ht,h4,hb1,hn,h8,h5,hv,hend=>by
   have ha:=ht a (by simp)
   have hw:IntKind.i64.wrap (u+1)=u+1:=wrap64_id (by omega)
   rw [V_loop]
   obtain ⟨v',is,hs,hv'⟩:=(hv.grow (m:=0)).drop1
   cases hv with
   | im b hv =>
     subst hv
     simp only [En_cons,Enc_Int] at hs
     by_cases e:a=u+1
     ·simp only [e] at hs
      simp [L163_1,h5,h8,hw,e,En_cons,allLen,hs]
      refine r2Fold_loop (n:=n) (s:=s) l (u+1) _ v' (by omega) (by omega) (fun m hm=>ht m (by simp [hm])) (by simp [h4]) (by simp [hb1,hn]) (by simpa using hn) (by simp) (by simp) (by repeat (first | exact hv' | refine Vw.grow ?_)) (fun st' v' a1 a2 a3 a4 a5 a6=>hend st' v' a1 a2 a3 (by rw [a4]; simp [foldE,e]) a5 (by simpa [foldE,e] using a6))
     ·simp [L163_1,h5,h8,hw,e,En_cons,allLen,hs]
      refine hend _ _ (by simp [h4]) (by simp [hb1,hn]) (by simpa using hn) (by simp [h8,foldE,e]) rfl ?_
      simp [h5,foldE,e]
      exact .im b rfl
   | sl r xs off hv hb hle he hr =>
     subst hv
     have hh:=Vw.head (H:=st.h) (r:=r) hle he
     have hv0:Vw st.h (.sl r 1 xs.length off (a::l).length) (a::l):=.sl r xs off rfl hb hle he hr
     simp at hle hs
     by_cases e:a=u+1
     ·simp only [e] at hs hh
      simp [L163_1,h5,h8,hw,e,hb,hr,hh,hs]
      refine r2Fold_loop (n:=n) (s:=s) l (u+1) _ v' (by omega) (by omega) (fun m hm=>ht m (by simp [hm])) (by simp [h4]) (by simp [hb1,hn]) (by simpa using hn) (by simp) (by simp) (by repeat (first | exact hv' | refine Vw.grow ?_)) (fun st' v' a1 a2 a3 a4 a5 a6=>hend st' v' a1 a2 a3 (by rw [a4]; simp [foldE,e]) a5 (by simpa [foldE,e] using a6))
     ·simp [L163_1,h5,h8,hw,e,hb,hr,hh,hs]
      refine hend _ _ (by simp [h4]) (by simp [hb1,hn]) (by simpa using hn) (by simp [h8,foldE,e]) rfl ?_
      simp only [foldE,e,if_false]
      simpa [h5] using hv0.grow
theorem insG_len {n:Int}:∀ l:List Int,(insG n l).length=l.length+1
 | []=>rfl
 | a::l=>by
   unfold insG
   split
   ·rfl
   ·simp [insG_len l]
theorem foldE_len:∀ (l:List Int) (u:Int),(foldE u l).x.length≤l.length
 | [],u=>by simp [foldE]
 | a::l,u=>by
   unfold foldE
   split
   ·have:=foldE_len l (u+1); simp; omega
   ·simp
theorem r2Add_ans {s:Sp} {n:Int} (hs:s.ok) (hL:s.x.length+1 < most):ans (env P) 163 [.agg (spV s),iv n]=some (.agg (spV (addR s n))):=by
 have kH:=r2Has_ans (P:=P) (s:=s) (n:=n) hs.x0 (by omega)
 have hp:=plainss_En s.x
 refine ans_V rfl rfl ?_
 by_cases h1:n < 1
 ·rw [show addR s n=s by unfold addR; rw [if_pos (.inl h1)]]
  simp [c163,h1,elems,chunks,allLen]
  refine VP_appN (ys:=En ([]:List Int)) (N:=2) LN.nil (by simp) (by simp) (by simp) (by simp) (by simp; omega) fun v' H' wr rd e2' e3 e4 _ e6=>?_
  have b0:=e4 0
  have b1:=e4 1
  simp at b0 b1
  have e2:=e2'.l
  have w0:∀ x∈wr,¬ x=0:=fun x hx=>by have:=e6 x hx; omega
  have w1:∀ x∈wr,¬ x=1:=fun x hx=>by have:=e6 x hx; omega
  rw [← En_append,List.nil_append] at e2
  cases e2 with
  | im hv hl =>
    subst hv
    simp [b0,b1,e3]
    try exact w0
  | row r xs hv hb hle he hr hl =>
    subst hv
    have hr1:¬ r=1:=by intro e; subst e; rw [b1] at hb; cases hb
    have hp:=plainss_En s.x
    simp only [En_length] at he hle
    simp [e3] at hr
    simp [b0,b1,e3,hb,hr1,hle,he,hp,hr]
    try exact w0
 by_cases h2:1048576 < n
 ·rw [show addR s n=s by unfold addR; rw [if_pos (.inr (.inl h2))]]
  simp [c163,h1,h2,elems,chunks,allLen]
  refine VP_appN (ys:=En ([]:List Int)) (N:=2) LN.nil (by simp) (by simp) (by simp) (by simp) (by simp; omega) fun v' H' wr rd e2' e3 e4 _ e6=>?_
  have b0:=e4 0
  have b1:=e4 1
  simp at b0 b1
  have e2:=e2'.l
  have w0:∀ x∈wr,¬ x=0:=fun x hx=>by have:=e6 x hx; omega
  have w1:∀ x∈wr,¬ x=1:=fun x hx=>by have:=e6 x hx; omega
  rw [← En_append,List.nil_append] at e2
  cases e2 with
  | im hv hl =>
    subst hv
    simp [b0,b1,e3]
    try exact w0
  | row r xs hv hb hle he hr hl =>
    subst hv
    have hr1:¬ r=1:=by intro e; subst e; rw [b1] at hb; cases hb
    have hp:=plainss_En s.x
    simp only [En_length] at he hle
    simp [e3] at hr
    simp [b0,b1,e3,hb,hr1,hle,he,hp,hr]
    try exact w0
 by_cases h3:s.Has n
 ·rw [show addR s n=s by unfold addR; rw [if_pos (.inr (.inr h3))]]
  simp only [h3,decide_true] at kH
  simp [c163,h1,h2,kH,elems,chunks,allLen]
  refine VP_appN (ys:=En ([]:List Int)) (N:=2) LN.nil (by simp) (by simp) (by simp) (by simp) (by simp; omega) fun v' H' wr rd e2' e3 e4 _ e6=>?_
  have b0:=e4 0
  have b1:=e4 1
  simp at b0 b1
  have e2:=e2'.l
  have w0:∀ x∈wr,¬ x=0:=fun x hx=>by have:=e6 x hx; omega
  have w1:∀ x∈wr,¬ x=1:=fun x hx=>by have:=e6 x hx; omega
  rw [← En_append,List.nil_append] at e2
  cases e2 with
  | im hv hl =>
    subst hv
    simp [b0,b1,e3]
    try exact w0
  | row r xs hv hb hle he hr hl =>
    subst hv
    have hr1:¬ r=1:=by intro e; subst e; rw [b1] at hb; cases hb
    have hp:=plainss_En s.x
    simp only [En_length] at he hle
    simp [e3] at hr
    simp [b0,b1,e3,hb,hr1,hle,he,hp,hr]
    try exact w0
 ·rw [show addR s n=foldE s.u (insG n s.x) by unfold addR; rw [if_neg (by simp only [not_or]; exact ⟨h1,h2,h3⟩)]]
  simp only [h3,decide_false] at kH
  have hnx:n∉s.x:=fun hx=>h3 ⟨by omega,.inr hx⟩
  have hun:s.u < n:=by
   rcases Int.lt_or_le s.u n with h | h
   ·exact h
   ·exact absurd ⟨by omega,.inl h⟩ h3
  have htop:∀ m∈insG n s.x,m≤1048576:=fun m hm=>by
   rcases (mem_insG _).1 hm with rfl | hm
   ·omega
   ·exact hs.x1 m hm
  have hlow:∀ m∈insG n s.x,s.u < m:=fun m hm=>by
   rcases (mem_insG _).1 hm with rfl | hm
   ·exact hun
   ·have:=hs.gap m hm; omega
  have hil:=insG_len (n:=n) s.x
  have hfl:=foldE_len (insG n s.x) s.u
  simp [c163,h1,h2,kH]
  refine r2Add_loop (n:=n) (s:=s) (T:=insG n s.x) rfl (by omega) s.x 0 _ (.im [] true) [] false rfl (by omega) (by simp) (by simp) (by simp) (by simp) (by simp) (by simp) (by simp) (by simp) (by simp) Lst.nil (by simp) (by simp) ?_
  intro st x L b P2 hb0 hb1 hn h4 P1 h5 P6 hl hle hle2 hT
  have hn0:0 < st.h.n:=by omega
  cases b with
  | true =>
    simp at hT
    subst hT
    have hX:=lst_vw hl
    simp [P2,hb0,hn0,P6]
    obtain ⟨f1,f2⟩:=foldU_ok (insG n s.x) s.u hs.u0 hs.u1 (insG_srt s.x hs.srt hnx) htop
    rw [← foldE_U (insG n s.x) s.u (insG_srt s.x hs.srt hnx) hlow] at f1
    refine r2Fold_loop (n:=n) (s:=s) (insG n s.x) s.u _ x hs.u1 hs.u0 htop (by simp [h4]) (by simp [hb1,hn]) (by simp [hn]; try omega) (by simp) (by simp [h5]) (by first | exact hX | exact hX.grow | exact hX.grow.grow) ?_
    intro st' v' a4 ab a1 a8 a5 av
    obtain ⟨is,hel⟩:=(av.grow (m:=1)).elems
    have a0:0 < st'.h.n:=by omega
    simp [a8,a5,chunks,hel,allLen]
    refine VP_appN (ys:=En ([]:List Int)) (N:=2) LN.nil (by simp) (by simp) (by omega) (by simp) (by simp; omega) fun v' H' wr rd e2' e3 e4 _ e6=>?_
    have b1:=e4 1
    simp [ab,a1] at b1
    have e2:=e2'.l
    have w0:∀ x∈wr,¬ x=0:=fun x hx=>by have:=e6 x hx; omega
    have w1:∀ x∈wr,¬ x=1:=fun x hx=>by have:=e6 x hx; omega
    rw [← En_append,List.nil_append] at e2
    cases e2 with
    | im hv hl =>
      subst hv
      simp [a4,b1,ab,a1,a8,e3]
      try exact w0
    | row r xs hv hb hle he hr hl =>
      subst hv
      have hr1:¬ r=1:=by intro e; subst e; rw [b1] at hb; cases hb
      have hp:=plainss_En (foldE s.u (insG n s.x)).x
      simp only [En_length] at he hle
      simp [e3] at hr
      simp [a4,b1,ab,a1,a8,e3,hb,hr1,hle,he,hp,hr]
      try exact w0
  | false =>
    simp at hT
    have hle3:=hle2 rfl
    simp [P2,hb0,hn0,P6,P1,h5,chunks,elems,allLen]
    refine VP_app (ys:=En L) (by repeat (first | exact hl | refine Lst.grow ?_)) (by simp) (by simp) (by simp [allLen]) (by simp; omega) fun v1 H1 wr1 rd1 e1 e2 e3=>?_
    have f0:=e3 0 (spV s) (by simp [hb0,hn0,show ¬ (0=st.h.n) by omega,show 0 < st.h.n+1 by omega])
    have fb1:=e3 1 [iv 0,.im [] true] (by simp [hb1,hn,show 1 < st.h.n+1 by omega])
    have hX:Vw H1 v1 (insG n s.x):=by
     rw [← hT]
     exact lst_vw (by rw [En_append,En_one]; exact e1)
    simp [P2,f0,e2]
    obtain ⟨f1,f2⟩:=foldU_ok (insG n s.x) s.u hs.u0 hs.u1 (insG_srt s.x hs.srt hnx) htop
    rw [← foldE_U (insG n s.x) s.u (insG_srt s.x hs.srt hnx) hlow] at f1
    refine r2Fold_loop (n:=n) (s:=s) (insG n s.x) s.u _ v1 hs.u1 hs.u0 htop (by simp [h4]) (by simp [fb1,e2,hn,show 1 < st.h.n+1 by omega]) (by simp [e2]; try omega) (by simp) (by simp) (by first | exact hX | exact hX.grow | exact hX.grow.grow) ?_
    intro st' v' a4 ab a1 a8 a5 av
    obtain ⟨is,hel⟩:=(av.grow (m:=1)).elems
    have a0:0 < st'.h.n:=by omega
    simp [a8,a5,chunks,hel,allLen]
    refine VP_appN (ys:=En ([]:List Int)) (N:=2) LN.nil (by simp) (by simp) (by omega) (by simp) (by simp; omega) fun v' H' wr rd e2' e3 e4 _ e6=>?_
    have b1:=e4 1
    simp [ab,a1] at b1
    have e2:=e2'.l
    have w0:∀ x∈wr,¬ x=0:=fun x hx=>by have:=e6 x hx; omega
    have w1:∀ x∈wr,¬ x=1:=fun x hx=>by have:=e6 x hx; omega
    rw [← En_append,List.nil_append] at e2
    cases e2 with
    | im hv hl =>
      subst hv
      simp [a4,b1,ab,a1,a8,e3]
      try exact w0
    | row r xs hv hb hle he hr hl =>
      subst hv
      have hr1:¬ r=1:=by intro e; subst e; rw [b1] at hb; cases hb
      have hp:=plainss_En (foldE s.u (insG n s.x)).x
      simp only [En_length] at he hle
      simp [e3] at hr
      simp [a4,b1,ab,a1,a8,e3,hb,hr1,hle,he,hp,hr]
      try exact w0
end Go.Evl.Zone

namespace Go.Evl.Zone
open Go Go.Evl
variable {P:Program}
theorem addR_len (s:Sp) (n:Int):(addR s n).x.length≤s.x.length+1:=by
 unfold addR
 split
 ·omega
 ·have:=foldE_len (insG n s.x) s.u
  rw [insG_len] at this
  exact this
structure U2 (A B acc:Sp) (st:St):Prop where
 p2:st.σ 2 = .ptr 0 0
 p3:st.σ 3 = .ptr 1 0
 p4:st.σ 4 = .ptr 2 0
 p5:st.σ 5 = .ptr 3 0
 b0:st.h.at_ 0 = .box (spV A)
 b1:st.h.at_ 1 = .box (spV B)
 b2:st.h.at_ 2 = .box [iv 0,.im [] true]
 b3:∃ fl,st.h.at_ 3 = .box [iv acc.u,.im (En acc.x) fl]
 n:3 < st.h.n
theorem r2U_loop0 {A B:Sp} {v:List Int} (hv:A.x=v) {ks:List Fr'} {K:Ex→St→Prop} (hL:v.length≤most):∀ (rest:List Int) (i:Nat) (st:St) (acc:Sp),v.drop i=rest→i≤v.length→U2 A B acc st→acc.ok→acc.x.length+rest.length+2 < most→st.σ 6=iv i →
  (∀ st',U2 A B (rest.foldl addR acc) st'→(rest.foldl addR acc).ok→(rest.foldl addR acc).x.length≤acc.x.length+rest.length→VN (env P) 175 st' ks K)→V (env P) 175 (.loop L175_0) st (.blk 0::ks) K
 | [],i,st,acc,hr,hile,hU,hok,hm,hi,hend=>by
   obtain ⟨hii,hlt,hd⟩:=drop_nil hr hile
   obtain ⟨p2,p3,p4,p5,b0,b1,b2,⟨fl,b3⟩,n3⟩:=hU
   have n0:0 < st.h.n:=by omega
   rw [V_loop]
   simp [L175_0,p2,b0,n0,hi,hlt,hv]
   exact hend _ ⟨by simp [p2],by simp [p3],by simp [p4],by simp [p5],by simp [b0]; omega,by simp [b1]; omega,by simp [b2]; omega,⟨fl,by simp [b3]; omega⟩,by simpa using n3⟩ hok (by simp)
 | q::rest,i,st,acc,hr,hile,hU,hok,hm,hi,hend=>by
   obtain ⟨hq,hlt,hr',_⟩:=drop_cons hr
   obtain ⟨p2,p3,p4,p5,b0,b1,b2,⟨fl,b3⟩,n3⟩:=hU
   have n0:0 < st.h.n:=by omega
   have hc:=En_at hq
   have hw:=wrapS (i:=i) (by unfold most at hL; omega)
   simp only [List.length_cons] at hm
   have k:=r2Add_ans (P:=P) (s:=acc) (n:=q) hok (by omega)
   have hl1:=addR_len acc q
   have m0:0 < st.h.n:=by omega
   have m1:1 < st.h.n:=by omega
   have m2:2 < st.h.n:=by omega
   rw [V_loop]
   simp [L175_0,p2,p5,b0,b3,n0,n3,hi,hlt,hv,hc,hw,k]
   exact r2U_loop0 (A:=A) (B:=B) hv hL rest (i+1) _ (addR acc q) hr' (by omega) ⟨by simp [p2],by simp [p3],by simp [p4],by simp [p5],by simp [b0,n0,m0],by simp [b1,m1],by simp [b2,m2],⟨false,by simp [n3]⟩,by simpa using n3⟩ (addR_ok hok).1 (by omega) (by simp) (fun st' x y z=>hend st' x y (by rw [List.foldl_cons]; simp only [List.length_cons]; omega))
theorem r2U_loop1 {A B:Sp} {v:List Int} (hv:B.x=v) {ks:List Fr'} {K:Ex→St→Prop} (hL:v.length≤most):∀ (rest:List Int) (i:Nat) (st:St) (acc:Sp),v.drop i=rest→i≤v.length→U2 A B acc st→acc.ok→acc.x.length+rest.length+2 < most→st.σ 7=iv i →
  (∀ st',U2 A B (rest.foldl addR acc) st'→VN (env P) 175 st' ks K)→V (env P) 175 (.loop L175_1) st (.blk 2::ks) K
 | [],i,st,acc,hr,hile,hU,hok,hm,hi,hend=>by
   obtain ⟨hii,hlt,hd⟩:=drop_nil hr hile
   obtain ⟨p2,p3,p4,p5,b0,b1,b2,⟨fl,b3⟩,n3⟩:=hU
   have n0:1 < st.h.n:=by omega
   rw [V_loop]
   simp [L175_1,p3,b1,n0,hi,hlt,hv]
   exact hend _ ⟨by simp [p2],by simp [p3],by simp [p4],by simp [p5],by simp [b0]; omega,by simp [b1]; omega,by simp [b2]; omega,⟨fl,by simp [b3]; omega⟩,by simpa using n3⟩
 | q::rest,i,st,acc,hr,hile,hU,hok,hm,hi,hend=>by
   obtain ⟨hq,hlt,hr',_⟩:=drop_cons hr
   obtain ⟨p2,p3,p4,p5,b0,b1,b2,⟨fl,b3⟩,n3⟩:=hU
   have n0:1 < st.h.n:=by omega
   have hc:=En_at hq
   have hw:=wrapS (i:=i) (by unfold most at hL; omega)
   simp only [List.length_cons] at hm
   have k:=r2Add_ans (P:=P) (s:=acc) (n:=q) hok (by omega)
   have hl1:=addR_len acc q
   have m0:0 < st.h.n:=by omega
   have m1:1 < st.h.n:=by omega
   have m2:2 < st.h.n:=by omega
   rw [V_loop]
   simp [L175_1,p3,p5,b1,b3,n0,n3,hi,hlt,hv,hc,hw,k]
   exact r2U_loop1 (A:=A) (B:=B) hv hL rest (i+1) _ (addR acc q) hr' (by omega) ⟨by simp [p2],by simp [p3],by simp [p4],by simp [p5],by simp [b0,n0,m0],by simp [b1,m1],by simp [b2,m2],⟨false,by simp [n3]⟩,by simpa using n3⟩ (addR_ok hok).1 (by omega) (by simp) (fun st' x=>hend st' x)
theorem r2Union_ans {a b:Sp} (ha:a.ok) (hb:b.ok) (hL:a.x.length+b.x.length+4 < most):ans (env P) 175 [.agg (spV a),.agg (spV b)]=some (.agg (spV (uniS a b))):=by
 rw [← uniR_eq ha.towk hb.towk]
 refine ans_V rfl rfl ?_
 unfold uniR
 split
 ·rename_i h
  simp [c175,h]
  refine r2U_loop0 (A:=b) (B:=a) rfl (by omega) b.x 0 _ ⟨b.u,[]⟩ rfl (by omega) ⟨by simp,by simp,by simp,by simp,by simp,by simp,by simp,⟨true,by simp⟩,by simp⟩ (nil_ok hb.u0 hb.u1) (by simp; omega) (by simp) ?_
  intro st hU hok hl
  simp
  refine r2U_loop1 (A:=b) (B:=a) rfl (by omega) a.x 0 _ _ rfl (by omega) ⟨by simp [hU.p2],by simp [hU.p3],by simp [hU.p4],by simp [hU.p5],by simp [hU.b0]; have:=hU.n; omega,by simp [hU.b1]; have:=hU.n; omega,by simp [hU.b2]; have:=hU.n; omega,hU.b3.elim fun fl h=>⟨fl,by simp [h]; have:=hU.n; omega⟩,by simpa using hU.n⟩ hok (by simp at hl; omega) (by simp) ?_
  intro st' hV
  obtain ⟨p2,p3,p4,p5,b0,b1,b2,⟨fl,b3⟩,n3⟩:=hV
  have n2:2 < st'.h.n:=by omega
  rw [← List.foldl_append] at b3
  simp [p4,p5,b2,b3,n2,n3]
 ·rename_i h
  simp [c175,h]
  refine r2U_loop0 (A:=a) (B:=b) rfl (by omega) a.x 0 _ ⟨a.u,[]⟩ rfl (by omega) ⟨by simp,by simp,by simp,by simp,by simp,by simp,by simp,⟨true,by simp⟩,by simp⟩ (nil_ok ha.u0 ha.u1) (by simp; omega) (by simp) ?_
  intro st hU hok hl
  simp
  refine r2U_loop1 (A:=a) (B:=b) rfl (by omega) b.x 0 _ _ rfl (by omega) ⟨by simp [hU.p2],by simp [hU.p3],by simp [hU.p4],by simp [hU.p5],by simp [hU.b0]; have:=hU.n; omega,by simp [hU.b1]; have:=hU.n; omega,by simp [hU.b2]; have:=hU.n; omega,hU.b3.elim fun fl h=>⟨fl,by simp [h]; have:=hU.n; omega⟩,by simpa using hU.n⟩ hok (by simp at hl; omega) (by simp) ?_
  intro st' hV
  obtain ⟨p2,p3,p4,p5,b0,b1,b2,⟨fl,b3⟩,n3⟩:=hV
  have n2:2 < st'.h.n:=by omega
  rw [← List.foldl_append] at b3
  simp [p4,p5,b2,b3,n2,n3]
end Go.Evl.Zone

namespace Go.Evl.Zone
open Go Go.Evl
variable {P:Program}
inductive FN (N:Nat) (H:Heap) (k:Nat) (v:PV) (ys:List (List PV)):Prop where
 | im (hv:v = .im [] true) (h0:ys=[])
 | row (r:Nat) (hv:v = .sl r k ys.length 0 ys.length) (hb:H.at_ r = .row k ys true) (hN:N≤r) (hr:r < H.n) (hl:allLen k ys=true)
theorem FN.ln {N:Nat} {H:Heap} {k:Nat} {v:PV} {ys:List (List PV)} (h:FN N H k v ys):LN N H k v ys:=by
 cases h with
 | im hv h0=>subst hv h0; exact LN.nil
 | row r hv hb hN hr hl=>exact ⟨.row r ys hv hb (Nat.le_refl _) List.take_length hr hl,by intro r' k' g off len e; rw [hv] at e; cases e; exact hN⟩
theorem FN.keep {N:Nat} {H H':Heap} {k:Nat} {v:PV} {ys:List (List PV)} (h:FN N H k v ys) (hn:H.n≤H'.n) (ha:∀ r,N≤r→r < H.n→H'.at_ r=H.at_ r):FN N H' k v ys:=by
 cases h with
 | im hv h0=>exact .im hv h0
 | row r hv hb hN hr hl=>exact .row r hv (by rw [ha r hN hr,hb]) hN (by omega) hl
theorem FN.grow {N m:Nat} {H:Heap} {k:Nat} {v:PV} {ys:List (List PV)} (h:FN N H k v ys):FN N (H.grow m) k v ys :=
 h.keep (by simp) fun r _ hr=>by simp [hr]
theorem FN.app {N:Nat} {H:Heap} {slot k:Nat} {v:PV} {ys zs:List (List PV)} (h:FN N H k v ys) (hd:H.at_ slot = .dead) (hs:slot < H.n) (hN:N≤slot) (hz:allLen k zs=true) (hm:ys.length+zs.length≤most) :
  ∃ (v':PV) (H':Heap) (wr rd:List Nat),appendP H slot k v zs=some (v',H',wr,rd)∧FN N H' k v' (ys++zs)∧H'.n=H.n∧(∀ i cs,H.at_ i = .box cs→H'.at_ i = .box cs)∧(∀ i,i < N→H'.at_ i=H.at_ i)∧(∀ i∈wr,N≤i):=by
 by_cases h0:zs.length=0
 ·have:zs=[]:=List.length_eq_zero_iff.1 h0
  subst this
  refine ⟨v,H,[],[],?_,by simpa using h,rfl,fun _ _ h=>h,fun _ _=>rfl,by simp⟩
  cases h with
  | im hv h0=>subst hv; rfl
  | row r hv hb hN hr hl=>subst hv; rfl
 ·cases h with
  | im hv e0 =>
    subst hv e0
    refine ⟨.sl slot k zs.length 0 zs.length,H.put slot (.row k zs true),[slot],[],?_,.row slot (by simp) (by simp [hs]) hN (by simpa using hs) (by simpa using hz),rfl,?_,?_,?_⟩
    ·unfold appendP
     rw [if_neg h0]
     simp only [List.length_nil,Nat.zero_add,List.nil_append] at hm ⊢
     rw [if_pos ⟨rfl,hm⟩]
    ·intro i cs hi
     simp only [at_put]
     rw [if_neg (by rintro rfl; rw [hd] at hi; cases hi),hi]
    ·intro i hi
     simp only [at_put]
     rw [if_neg (by omega)]
    ·intro i hi
     simp at hi
     omega
  | row r hv hb hNr hr hl =>
    subst hv
    refine ⟨.sl r k (ys.length+zs.length) 0 (ys.length+zs.length),H.put r (.row k (ys++zs) true),[r],[r],?_,.row r (by simp) (by simp [hr]) hNr (by simpa using hr) (by simp [allLen_append,hl,hz]),rfl,?_,?_,?_⟩
    ·unfold appendP
     rw [if_neg h0]
     simp only [hb]
     rw [if_pos ⟨trivial,trivial,trivial,by omega⟩,if_neg (by omega),if_pos ⟨trivial,hm⟩,List.take_length]
    ·intro i cs hi
     simp only [at_put]
     rw [if_neg (by rintro rfl; rw [hb] at hi; cases hi),hi]
    ·intro i hi
     simp only [at_put]
     rw [if_neg (by omega)]
    ·intro i hi
     simp at hi
     omega
theorem VP_appF {E:Env} {f:FuncId} {N:Nat} {H:Heap} {slot k:Nat} {v:PV} {ys zs:List (List PV)} {G:PV × Heap × List Nat × List Nat→Option ORes} {dst:Option Nat} {rest:List CI} {i slot':Nat} {st:St} {log:Log} {d:Dr} {ks:List Fr'} {K:Ex→St→Prop}
  (hl:FN N H k v ys) (hd:H.at_ slot = .dead) (hs:slot < H.n) (hN:N≤slot) (hz:allLen k zs=true) (hm:ys.length+zs.length≤most)
  (h:∀ v' H' wr rd,FN N H' k v' (ys++zs)→H'.n=H.n→(∀ i cs,H.at_ i = .box cs→H'.at_ i = .box cs)→(∀ i,i < N→H'.at_ i=H.at_ i)→(∀ i∈wr,N≤i)→VP E f (G (v',H',wr,rd)) dst rest i slot' st log d ks K):VP E f (ob (appendP H slot k v zs) G) dst rest i slot' st log d ks K:=by
 obtain ⟨v',H',wr,rd,e1,e2,e3,e4,e5,e6⟩:=hl.app hd hs hN hz hm
 rw [e1]
 exact h v' H' wr rd e2 e3 e4 e5 e6
theorem keepH {h H:Heap} {n:Nat} (e:n=h.n):(if n=H.n then (h.grow 0).cut H else h.grow 0).n=h.n∧∀ i,i < h.n→(if n=H.n then (h.grow 0).cut H else h.grow 0).at_ i=h.at_ i:=by
 subst e
 have hg:∀ i,i < h.n→(h.grow 0).at_ i=h.at_ i:=fun i hi=>by simp [hi]
 split
 ·rename_i e
  exact ⟨e.symm,fun i hi=>by show (if i < H.n then (h.grow 0).at_ i else H.at_ i)=_; rw [if_pos (by omega),hg i hi]⟩
 ·exact ⟨by simp,hg⟩
theorem fn_same {N k:Nat} {h h':Heap} {x:PV} {ys:List (List PV)} (a:FN N h k x ys) (e:h'.n=h.n∧∀ i,i < h.n→h'.at_ i=h.at_ i):FN N h' k x ys:=a.keep (by rw [e.1]; exact Nat.le_refl _) fun i _ hi=>e.2 i hi
theorem concatI_app {a b:List Int} {f1 f2 f3:Bool} {N:Nat} {ks:List Fr'} {K:Ex→St→Prop} (hL:a.length+b.length≤most) {st:St} {x:PV} (h25:st.σ 25 = .im [[.im (En a) f1],[.im (En b) f2]] f3) (h26:st.σ 26=iv 2) (h27:st.σ 27=iv 0) (h6:st.σ 6=x) (hl:FN N st.h 1 x (En ([]:List Int))) (hN:N≤st.h.n) (hw:∀ j∈st.wl,N≤j)
  (hend:∀ st' x,st'.σ 6=x→FN N st'.h 1 x (En (a++b))→N≤st'.h.n→(∀ j,j < N→st'.h.at_ j=st.h.at_ j)→(∀ j∈st'.wl,N≤j)→VN (env P) 208 st' ks K):V (env P) 208 (.loop L208_1) st (.blk 2::ks) K:=by
 have v1:IntKind.i64.wrap 1=1:=wrap64_id (by omega)
 have v2:IntKind.i64.wrap 2=2:=wrap64_id (by omega)
 rw [V_loop]
 simp [L208_1,h25,h26,h27,h6,allLen,elems]
 refine VP_appF (N:=N) (ys:=En ([]:List Int)) (by repeat (first | exact hl | refine FN.grow ?_)) (by simp) (by simp) hN (by simp [allLen]) (by simp; omega) fun v' H' wr rd e2 e3 _ e5 e6=>?_
 rw [En_nil,List.nil_append] at e2
 simp [h25,h26,h27,v1,v2,e3]
 rw [V_loop]
 simp [h25,h26,h27,v1,v2,e3,allLen,elems]
 refine VP_appF (N:=N) (ys:=En a) (by repeat (first | exact e2 | refine FN.grow ?_)) (by simp [e3]) (by simp [e3]) (by omega) (by simp [allLen]) (by simp; omega) fun v2' H2 wr2 rd2 g2 g3 _ g5 g6=>?_
 rw [← En_append] at g2
 simp [h25,h26,h27,v1,v2,e3,g3]
 rw [V_loop]
 simp [h25,h26,h27,v1,v2,e3,g3]
 refine hend _ v2' (by simp) (by repeat (first | exact g2 | refine FN.grow ?_)) (by simp [g3,e3]; omega) (fun j hj=>?_) ?_
 ·have:=g5 j hj
  have:=e5 j hj
  simp [*,show j < st.h.n by omega,show j < st.h.n+1 by omega,show j < st.h.n+1+1 by omega,g3,e3] at *
  done
 ·intro j hj
  simp at hj
  rcases hj with h | h | h
  ·exact g6 j h
  ·exact e6 j h
  ·exact hw j h
theorem concatI_KC {H:Heap} {a b:List Int} {f1 f2 f3:Bool} {K:PV→Heap→List Nat→Prop} (hL:a.length+b.length≤most) (hK:∀ x H' wl,FN H.n H' 1 x (En (a++b))→H.n≤H'.n→(∀ j,j < H.n→H'.at_ j=H.at_ j)→(∀ j∈wl,H.n≤j)→K x H' wl):KC (env P) 208 [.im [[.im (En a) f1],[.im (En b) f2]] f3] H K:=by
 have c1:=fun {dst:Option Nat} {rest:List CI} {i slot slot':Nat} {log:Log} {d:Dr} {K:Ex→St→Prop} {st:St} {ks:List Fr'} {xs:List O}=>VA_prim (E:=env P) (f:=208) (g:=232) (p:=pGrow 1) (dst:=dst) (rest:=rest) (i:=i) (slot:=slot) (slot':=slot') (log:=log) (d:=d) (K:=K) (st:=st) (ks:=ks) (xs:=xs) rfl
 have hM:most=68719476736:=rfl
 have w1:IntKind.i64.wrap (a.length:Int)=(a.length:Int):=wrap64_id (by omega)
 have w2:IntKind.i64.wrap ((a.length:Int)+(b.length:Int))=(a.length:Int)+(b.length:Int):=wrap64_id (by omega)
 have q1:¬ (a.length:Int) < 0:=by omega
 have q2:¬ (a.length:Int)+(b.length:Int) < 0:=by omega
 have v1:IntKind.i64.wrap 1=1:=wrap64_id (by omega)
 have v2:IntKind.i64.wrap 2=2:=wrap64_id (by omega)
 have ec:((a.length:Int)+(b.length:Int)).toNat=a.length+b.length:=by omega
 refine KC_of (cf:=c208) (fun _=>rfl) rfl ?_
 simp [c208]
 rw [V_loop]
 simp [L208_0,allLen,w1,q1,w2,q2,v1,v2]
 rw [V_loop]
 simp [L208_0,allLen,w1,q1,w2,q2,v1,v2]
 rw [V_loop]
 simp [L208_0,allLen,w1,q1,w2,q2,v1,v2,c1]
 by_cases h0:(a.length:Int)+(b.length:Int)=0
 ·have ha:a=[]:=List.length_eq_zero_iff.1 (by omega)
  have hb:b=[]:=List.length_eq_zero_iff.1 (by omega)
  subst ha hb
  simp [pGrow,elems,allLen,h0]
  refine concatI_app (a:=[]) (b:=[]) (f1:=f1) (f2:=f2) (f3:=f3) (N:=H.n) (by simp) (x:=.im [] true) (by simp) (by simp) (by simp) (by simp) (.im rfl rfl) (by simp) (by simp) ?_
  intro st' x e1 e2 e3 e4 e5
  simp [e1,resV,resP]
  have E:=keepH (h:=st'.h) (H:=H) (n:=st'.h.n) rfl
  exact hK x _ _ (fn_same e2 E) (Nat.le_trans e3 (Nat.le_of_eq E.1.symm)) (fun j hj=>(E.2 j (by omega)).trans (by rw [e4 j hj]; simp [hj,show j < H.n+1 by omega])) e5
 ·have p1:(0:Int) < (a.length:Int)+(b.length:Int):=by omega
  have p2:(a.length:Int)+(b.length:Int)≤(most:Int):=by omega
  simp [pGrow,elems,allLen,h0,p1,p2]
  refine concatI_app (a:=a) (b:=b) (f1:=f1) (f2:=f2) (f3:=f3) (N:=H.n) hL (x:=.sl H.n 1 0 0 0) (by simp) (by simp) (by simp) (by simp) (.row H.n rfl (by simp) (Nat.le_refl _) (by simp) (by simp [allLen])) (by simp) (by simp) ?_
  intro st' x e1 e2 e3 e4 e5
  simp [e1,resV,resP]
  have E:=keepH (h:=st'.h) (H:=H) (n:=st'.h.n) rfl
  exact hK x _ _ (fn_same e2 E) (Nat.le_trans e3 (Nat.le_of_eq E.1.symm)) (fun j hj=>(E.2 j (by omega)).trans (by rw [e4 j hj]; simp [hj,show j < H.n+1 by omega,show ¬ j=H.n by omega])) e5
end Go.Evl.Zone

namespace Go.Evl.Zone
open Go Go.Evl
variable {P:Program}
theorem ints_En:∀ l:List Int,ints (En l)=some l
 | []=>rfl
 | a::l=>by simp [En_cons,ints,ints_En l]
theorem sortZ_len (l:List Int):(sortZ l).length=l.length:=(sortZ_perm l).length_eq
theorem allLen_I (l:List Int):allLen 1 (En l)=true:=allLen_En rfl l
theorem sortI_FN {H:Heap} {N:Nat} {x:PV} {l:List Int} (h:FN N H 1 x (En l)) (hm:l.length≤most):∃ H' wr,pSortI [x] H=some ⟨uv,H',wr,none⟩∧FN N H' 1 x (En (sortZ l))∧H'.n=H.n+1∧(∀ i,i < H.n→i < N→H'.at_ i=H.at_ i)∧(∀ i∈wr,N≤i):=by
 cases h with
 | im hv h0 =>
   have hl:l=[]:=by cases l with
    | nil=>rfl
    | cons a l=>simp [En_cons] at h0
   subst hv hl
   exact ⟨H.grow 1,[],rfl,.im rfl rfl,rfl,fun i h1 h2=>by simp [h1],by simp⟩
 | row r hv hb hN hr hl =>
   subst hv
   refine ⟨(H.grow 1).put r (.row 1 (En (sortZ l)) true),[r],?_,.row r (by simp [sortZ_len]) ?_ hN ?_ (allLen_I _),rfl,?_,?_⟩
   ·simp only [pSortI,sortRow,hb]
    rw [if_pos ⟨trivial,trivial,by simpa using hm⟩,ints_En]
    rfl
   ·simp [show r < H.n+1 by omega]
   ·show r < H.n+1; omega
   ·intro i h1 h2
    simp only [at_put,at_grow]
    rw [if_neg (by omega),if_pos h1]
   ·intro i hi
    simp at hi
    omega
theorem dedZ_snoc (b:Int):∀ (m:List Int) (a:Int),dedZ (m++[a,b])=if a=b then dedZ (m++[a]) else dedZ (m++[a])++[b]
 | [],a=>by
   show (if a=b then dedZ [b] else a::dedZ [b])=_
   split
   ·rename_i h; rw [h]; rfl
   ·rfl
 | [c],a=>by
   have ih:=dedZ_snoc b [] a
   simp only [List.nil_append] at ih
   show (if c=a then dedZ (a::[b]) else c::dedZ (a::[b]))=if a=b then (if c=a then dedZ [a] else c::dedZ [a]) else (if c=a then dedZ [a] else c::dedZ [a])++[b]
   rw [ih]
   split <;> split <;> rfl
 | c::d::m,a=>by
   have ih:=dedZ_snoc b (d::m) a
   show (if c=d then dedZ (d::(m++[a,b])) else c::dedZ (d::(m++[a,b])))=if a=b then (if c=d then dedZ (d::(m++[a])) else c::dedZ (d::(m++[a]))) else (if c=d then dedZ (d::(m++[a])) else c::dedZ (d::(m++[a])))++[b]
   simp only [List.cons_append] at ih
   rw [ih]
   split <;> split <;> rfl
theorem take_two {l:List Int} {i:Nat} {a b:Int} (ha:l[i]?=some a) (hb:l[i+1]?=some b):l.take (i+2)=l.take i++[a,b]∧l.take (i+1)=l.take i++[a]:=by
 have h1:l.take (i+1)=l.take i++[a]:=by rw [List.take_add_one,ha]; rfl
 refine ⟨?_,h1⟩
 rw [show i+2=(i+1)+1 from rfl,List.take_add_one,hb,h1]
 simp
theorem loadR_I {X:List Int} {r n j:Nat} {q:Int} (hn:X.length=n) (h:X[j]?=some q):loadR (.row 1 (En X) true) r 1 n j 0 1=some ([iv q],[r]):=by
 rw [loadR_row ⟨rfl,by simp [hn]⟩,En_at? h]
 rfl
theorem storeR_I {H:Heap} {X:List Int} {r n j:Nat} {q:Int} (hn:X.length=n) (h:j < n):storeR H (.row 1 (En X) true) r 1 n j 0 [iv q]=some (H.put r (.row 1 (En (X.set j q)) true),r):=by
 have hj:(En X)[j]?=some [iv X[j]]:=En_at? (List.getElem?_eq_getElem (by omega))
 unfold storeR
 simp only [toRow,ob_some]
 rw [if_pos ⟨trivial,trivial,by simp [hn]⟩,hj,ob_some]
 simp [setL,En,List.map_set]
theorem mix_at? {D l:List Int} {j:Nat} {q:Int} (hD:D.length≤j) (h:l[j]?=some q):(D++l.drop D.length)[j]?=some q:=by
 rw [List.getElem?_append_right hD,List.getElem?_drop,show D.length+(j - D.length)=j by omega,h]
theorem mix_set {D l:List Int} {q:Int} (hD:D.length < l.length):(D++l.drop D.length).set D.length q=(D++[q])++l.drop (D++[q]).length:=by
 rw [List.set_append_right _ _ (Nat.le_refl _),Nat.sub_self,List.drop_eq_getElem_cons hD,List.set_cons_zero]
 simp
theorem cpt_loop1 {l:List Int} {r k m n:Nat} (hn:l.length=n) (hkm:k+m=n) (hm:n≤most) {H:Heap} {ks:List Fr'} {K:Ex→St→Prop}:∀ (rest:List Int) (t:Nat) (D:List Int) (st:St),l.drop (k+t)=rest→k+t≤n→0 < t→D=dedZ (l.take (k+t))→D.length < k+t→st.σ 0 = .sl r 1 n 0 n→st.σ 4 = .sl r 1 n k m→st.σ 3=iv D.length→st.σ 5=iv t→st.h.at_ r = .row 1 (En (D++l.drop D.length)) true→st.h.n=H.n→r < H.n→(∀ i,i < H.n→i≠r→st.h.at_ i=H.at_ i)→(∀ i∈st.wl,i=r) →
  (∀ st',(dedZ l).length < n→st'.σ 0 = .sl r 1 n 0 n→st'.σ 3=iv (dedZ l).length→st'.h.at_ r = .row 1 (En (dedZ l++l.drop (dedZ l).length)) true→st'.h.n=H.n→(∀ i,i < H.n→i≠r→st'.h.at_ i=H.at_ i)→(∀ i∈st'.wl,i=r)→VN (env P) 211 st' ks K)→V (env P) 211 (.loop L211_0) st (.blk 2::ks) K
 | [],t,D,st,hr,hle,ht,hD,hlt,h0,h4,h3,h5,hb,hN,hrn,hf,hw,hend=>by
   have he:k+t=n:=by
    have:=congrArg List.length hr
    simp at this
    omega
   have hD2:D=dedZ l:=by rw [hD,he,← hn,List.take_length]
   subst hD2
   have c1:¬ t < m:=by omega
   rw [V_loop]
   simp [L211_0,h4,h5,c1]
   exact hend _ (by omega) (by simp [h0]) (by simp [h3]) (by simpa [hN,hrn] using hb) (by simpa using hN) (fun i hi hne=>by simpa [hN,hi] using hf i hi hne) (by simpa using hw)
 | q::rest,t,D,st,hr,hle,ht,hD,hlt,h0,h4,h3,h5,hb,hN,hrn,hf,hw,hend=>by
   obtain ⟨hq,hlt2,hr',_⟩:=drop_cons hr
   obtain ⟨s,hs⟩:∃ s,t=s+1:=⟨t - 1,by omega⟩
   obtain ⟨p,hp⟩:∃ p,l[k+s]?=some p:=⟨_,List.getElem?_eq_getElem (by omega)⟩
   obtain ⟨t2,t1⟩:=take_two hp (show l[k+s+1]?=some q by rw [← hq,hs]; rfl)
   have hd:=dedZ_snoc q (l.take (k+s)) p
   rw [← t1,← t2,show k+s+1=k+t by omega,← hD] at hd
   have hM:most=68719476736:=rfl
   have g1:=mix_at? (D:=D) (by omega) hq
   have g2:=mix_at? (D:=D) (by omega) hp
   have hXl:(D++l.drop D.length).length=n:=by simp; omega
   have c1:t < m:=by omega
   have c2:s < m:=by omega
   have c4:k+t < n:=by omega
   have c5:k+s < n:=by omega
   have c6:D.length < n:=by omega
   have w1:IntKind.i64.wrap ((t:Int) - 1)=(s:Int):=by rw [wrap64_id (by omega)]; omega
   have w2:IntKind.i64.wrap ((t:Int)+1)=((t+1:Nat):Int):=by rw [wrap64_id (by omega)]; rfl
   have w3:IntKind.i64.wrap ((D.length:Int)+1)=((D.length+1:Nat):Int):=by rw [wrap64_id (by omega)]; rfl
   have hrn':r < st.h.n:=by omega
   have hset:=mix_set (D:=D) (l:=l) (q:=q) (by omega)
   obtain ⟨X,hX⟩:∃ X,X=D++l.drop D.length:=⟨_,rfl⟩
   rw [← hX] at hb g1 g2 hXl hset
   have l1:=loadR_I (r:=r) hXl g1
   have l2:=loadR_I (r:=r) hXl g2
   have s1:=fun H=>storeR_I (H:=H) (r:=r) (q:=q) hXl c6
   rw [hset] at s1
   rw [V_loop]
   by_cases e:p=q
   ·rw [if_pos e] at hd
    simp only [e] at l2
    simp [L211_0,h4,h5,h3,h0,c1,c2,c4,c5,w1,w2,hb,hrn',l1,l2,e]
    refine cpt_loop1 hn hkm hm rest (t+1) D _ hr' (by omega) (by omega) (by rw [← hd,show k+(t+1)=k+s+2 by omega]) (by omega) (by simp [h0]) (by simp [h4]) (by simp [h3]) (by simp) (by simp [hb,hrn',hX]) (by simpa using hN) hrn (fun i hi hne=>by simp [hN,hi,hf i hi hne]) hw hend
   ·rw [if_neg e] at hd
    have e':¬ q=p:=fun h=>e h.symm
    simp [L211_0,h4,h5,h3,h0,c1,c2,c4,c5,c6,w1,w2,w3,hb,hrn',l1,l2,s1,e']
    refine cpt_loop1 hn hkm hm rest (t+1) (D++[q]) _ hr' (by omega) (by omega) (by rw [← hd,show k+(t+1)=k+s+2 by omega]) (by simp; omega) (by simp [h0]) (by simp [h4]) (by simp) (by simp) (by simp [hrn']) (by simpa using hN) hrn (fun i hi hne=>by simp [hN,hi,hne,hf i hi hne]) (by simpa using hw) hend
theorem cpt_loop0 {l:List Int} {r n:Nat} (hn:l.length=n) (hm:n≤most) {H:Heap} {ks:List Fr'} {K:Ex→St→Prop}:∀ (rest:List Int) (i:Nat) (st:St),l.drop i=rest→i≤n→0 < i→dedZ (l.take i)=l.take i→st.σ 0 = .sl r 1 n 0 n→st.σ 3=iv i→st.h.at_ r = .row 1 (En l) true→st.h.n=H.n→r < H.n→(∀ i,i < H.n→i≠r→st.h.at_ i=H.at_ i)→(∀ i∈st.wl,i=r) →
  (∀ st',dedZ l=l→st'.σ 0 = .sl r 1 n 0 n→st'.h.at_ r = .row 1 (En l) true→st'.h.n=H.n→(∀ i,i < H.n→i≠r→st'.h.at_ i=H.at_ i)→(∀ i∈st'.wl,i=r)→VN (env P) 211 st' ks K) →
  (∀ st',(dedZ l).length < n→st'.σ 2 = .sl r 1 n 0 (dedZ l).length→st'.h.at_ r = .row 1 (En (dedZ l++List.replicate (n - (dedZ l).length) 0)) true→st'.h.n=H.n→(∀ i,i < H.n→i≠r→st'.h.at_ i=H.at_ i)→(∀ i∈st'.wl,i=r)→K .ret st')→V (env P) 211 (.loop L211_1) st (.blk 0::ks) K
 | [],i,st,hr,hile,hi,hd,h0,h3,hb,hN,hrn,hf,hw,hend,hret=>by
   obtain ⟨hii,hlt,hl⟩:=drop_nil hr (by omega)
   have c1:¬ i < n:=by omega
   rw [V_loop]
   simp [L211_1,h0,h3,c1]
   exact hend _ (by rw [hl] at hd; exact hd) (by simp [h0]) (by simpa [hN,hrn] using hb) (by simpa using hN) (fun i hi hne=>by simpa [hN,hi] using hf i hi hne) (by simpa using hw)
 | q::rest,i,st,hr,hile,hi,hd,h0,h3,hb,hN,hrn,hf,hw,hend,hret=>by
   obtain ⟨hq,hlt,hr',_⟩:=drop_cons hr
   obtain ⟨s,hs⟩:∃ s,i=s+1:=⟨i - 1,by omega⟩
   obtain ⟨p,hp⟩:∃ p,l[s]?=some p:=⟨_,List.getElem?_eq_getElem (by omega)⟩
   obtain ⟨t2,t1⟩:=take_two hp (show l[s+1]?=some q by rw [← hq,hs])
   have hd2:=dedZ_snoc q (l.take s) p
   rw [← t1,← t2,show s+1=i by omega,hd] at hd2
   have hM:most=68719476736:=rfl
   have c1:i < n:=by omega
   have c2:s < n:=by omega
   have w1:IntKind.i64.wrap ((i:Int) - 1)=(s:Int):=by rw [wrap64_id (by omega)]; omega
   have w2:IntKind.i64.wrap ((i:Int)+1)=((i+1:Nat):Int):=by rw [wrap64_id (by omega)]; rfl
   have hrn':r < st.h.n:=by omega
   have l1:=loadR_I (r:=r) hn hq
   have l2:=loadR_I (r:=r) hn hp
   rw [V_loop]
   by_cases e:p=q
   ·rw [if_pos e] at hd2
    simp only [e] at l2
    have c3:i≤n:=by omega
    have c4:¬ i=n:=by omega
    have hti:(l.take i).length=i:=by simp; omega
    simp [L211_1,h3,h0,c1,c2,c3,c4,w1,w2,hb,hrn',l1,l2,e,sliceP,hn]
    refine cpt_loop1 (k:=i) (m:=n - i) hn (by omega) hm rest 1 (l.take i) _ hr' (by omega) (by omega) (by rw [← hd2,show i+1=s+2 by omega]) (by omega) (by simp [h0]) (by simp) (by simp [h3,hti]) (by simp) (by rw [hti,List.take_append_drop]; simp [hb,hrn']) (by simpa using hN) hrn (fun i hi hne=>by simp [hN,hi,hf i hi hne]) hw ?_
    intro st' a1 a0 a3 ab aN af aw
    have hrn2:r < st'.h.n:=by omega
    have hE:(En (dedZ l++l.drop (dedZ l).length)).length=n:=by simp; omega
    have hset:List.take (dedZ l).length (En (dedZ l++l.drop (dedZ l).length))++(List.replicate (n - (dedZ l).length) [PV.val (.int .i64 0)]++List.drop n (En (dedZ l++l.drop (dedZ l).length)))=En (dedZ l++List.replicate (n - (dedZ l).length) 0):=by
     have hdl:List.drop n (dedZ l++l.drop (dedZ l).length)=[]:=List.drop_of_length_le (by rw [List.length_append,List.length_drop]; omega)
     rw [En_take,En_drop,hdl,List.take_append_of_le_length (Nat.le_refl _),List.take_length,En_append]
     simp [En]
    simp [a0,a3,sliceP,ab,hrn2,hE,show (dedZ l).length≤n by omega,show ¬ (dedZ l).length=n by omega]
    have hlr:(En (dedZ l++List.replicate (n - (dedZ l).length) 0)).length=n:=by simp; omega
    simp [pop,ab,hrn2,hE,hset,show (dedZ l).length≤n by omega,show (dedZ l).length+(n - (dedZ l).length)=n by omega]
    simp [a0,a3,sliceP,hrn2,hlr,show (dedZ l).length≤n by omega]
    exact hret _ a1 (by simp) (by simp [hrn2]) (by simpa using aN) (fun i hi hne=>by simp [aN,hi,hne,af i hi hne]) (by simpa using aw)
   ·rw [if_neg e] at hd2
    have e':¬ q=p:=fun h=>e h.symm
    simp [L211_1,h3,h0,c1,c2,w1,w2,hb,hrn',l1,l2,e']
    refine cpt_loop0 hn hm rest (i+1) _ hr' (by omega) (by omega) (by rw [show i+1=s+2 by omega,hd2,t2,hs,t1]; simp) (by simp [h0]) (by simp) (by simp [hb,hrn']) (by simpa using hN) hrn (fun i hi hne=>by simp [hN,hi,hf i hi hne]) hw hend hret
structure CEnd (H:Heap) (N:Nat) (l:List Int) (s:St):Prop where
 v:∃ v0 is,s.σ 2=v0∧expV s.h v0=some (.im (En (dedZ l)) false,is)∧∀ i∈is,N≤i
 n:s.h.n=H.n
 f:∀ i,i < N→i < H.n→s.h.at_ i=H.at_ i
 w:∀ i∈s.wl,N≤i
 b:((s.wl.filter (· < H.n)).all fun i=>(s.h.at_ i).below H.n)=true
theorem below_I {n:Nat}:∀ l:List Int,(Blk.row 1 (En l) true).below n=true:=fun l=>by
 simp [Blk.below,En]
 exact fun _ _=>rfl
theorem exp_row {H:Heap} {r n:Nat} {ys:List Int} {xs:List (List PV)} (hb:H.at_ r = .row 1 xs true) (hn:xs.length=n) (hm:ys.length≤n) (ht:xs.take ys.length=En ys):expV H (.sl r 1 n 0 ys.length)=some (.im (En ys) false,[r]):=by
 have hp:=plainss_En ys
 simp [hb,hn,hm,ht,hp]
theorem compactI_IC {H:Heap} {N:Nat} {x:PV} {l:List Int} {K:PV→Heap→List Nat→Prop} (h:FN N H 1 x (En l)) (hm:l.length≤most) (hK:∀ H' wl,H'.n=H.n→(∀ i,i < N→i < H.n→H'.at_ i=H.at_ i)→(∀ i∈wl,N≤i)→K (.im (En (dedZ l)) false) H' wl):IC (env P) 211 [x] H K:=by
 refine IC_of (cf:=c211) (fun _=>rfl) rfl ?_
 refine V_mono (K:=fun _ s=>CEnd H N l s) ?_ ?_
 ·cases h with
  | im hv h0 =>
    have hl:l=[]:=by cases l with
     | nil=>rfl
     | cons a l=>simp [En_cons] at h0
    subst hv hl
    simp [c211]
    exact ⟨⟨.im [] true,[],by simp,by simp [dedZ],by simp⟩,by simp,fun i h1 h2=>by simp [h2],by simp,by simp⟩
  | row r hv hb hN hr hl =>
    subst hv
    by_cases h2:l.length < 2
    ·have h2':(l.length:Int) < 2:=by omega
     have hd:dedZ l=l:=by
      match l,h2 with
      | [],_=>rfl
      | [a],_=>rfl
     simp [c211,h2']
     exact ⟨⟨.sl r 1 l.length 0 l.length,[r],by simp,by rw [hd]; exact exp_row (xs:=En l) (by simp [hb,hr]) (by simp) (Nat.le_refl _) (by rw [En_take,List.take_length]),by simp [hN]⟩,by simp,fun i h1 h2=>by simp [h2],by simp,by simp⟩
    ·have h2':¬ (l.length:Int) < 2:=by omega
     simp [c211,h2']
     have hM:most=68719476736:=rfl
     refine cpt_loop0 (l:=l) (r:=r) (n:=l.length) rfl hm (H:=H) (l.drop 1) 1 _ rfl (by omega) (by omega) ?_ (by simp) (by simp) (by simpa [hr] using hb) (by simp) hr (fun i hi hne=>by simp [hi]) (by simp) ?_ ?_
     ·cases l with
      | nil=>rfl
      | cons a l=>rfl
     ·intro st' e0 a0 ab aN af aw
      simp [a0]
      have hr2:r < st'.h.n:=by omega
      exact ⟨⟨.sl r 1 l.length 0 l.length,[r],by simp,by rw [e0]; exact exp_row (xs:=En l) (by simp [ab,hr2]) (by simp) (Nat.le_refl _) (by rw [En_take,List.take_length]),by simp [hN]⟩,by simpa using aN,fun i h1 h2=>by simp [aN,h2,af i h2 (by omega)],fun i hi=>by rw [aw i (by simpa using hi)]; exact hN,by
       simp only [List.all_eq_true,List.mem_filter]
       rintro i ⟨hi,_⟩
       rw [aw i (by simpa using hi)]
       simp only [at_grow,at_put]
       rw [if_pos hr2,ab]
       exact below_I _⟩
     ·intro st' e0 a2 ab aN af aw
      have hr2:r < st'.h.n:=by omega
      refine ⟨⟨.sl r 1 l.length 0 (dedZ l).length,[r],a2,exp_row (xs:=En (dedZ l++List.replicate (l.length - (dedZ l).length) 0)) ab (by simp; omega) (by omega) (by rw [En_take,List.take_append_of_le_length (Nat.le_refl _),List.take_length]),by simp [hN]⟩,aN,fun i h1 h2=>af i h2 (by omega),fun i hi=>by rw [aw i hi]; exact hN,?_⟩
      simp only [List.all_eq_true,List.mem_filter]
      rintro i ⟨hi,_⟩
      rw [aw i hi,ab]
      exact below_I _
 ·rintro e s ⟨⟨v0,is,v1,v2,v3⟩,n,f,w,b⟩
  refine ⟨.im (En (dedZ l)) false,is,?_,b,?_⟩
  ·show (resV s [.tmp 2]).bind (expV s.h)=_
   rw [show resV s [.tmp 2]=some (s.σ 2) from rfl,v1]
   exact v2
  ·split
   ·refine hK _ _ rfl (fun i h1 h2=>?_) (fun i hi=>w i (List.mem_filter.1 hi).1)
    show (if i < H.n then s.h.at_ i else H.at_ i)=_
    rw [if_pos h2,f i h1 h2]
   ·refine hK _ _ (by rw [freeze_n]; rfl) (fun i h1 h2=>?_) (fun i hi=>?_)
    ·rw [freeze_at,if_neg]
     ·show (if i < H.n then s.h.at_ i else H.at_ i)=_
      rw [if_pos h2,f i h1 h2]
     ·intro hi
      have:=v3 i (List.mem_filter.1 hi).1
      omega
    ·rcases List.mem_append.1 hi with hi | hi
     ·exact w i (List.mem_filter.1 hi).1
     ·exact v3 i (List.mem_filter.1 hi).1
end Go.Evl.Zone

namespace Go.Evl.Zone
open Go Go.Evl Go.Evl.Fl
variable {P:Program}
theorem ba_beq (a b:Bytes):((⟨a.toArray⟩:ByteArray) == ⟨b.toArray⟩)=decide (a=b):=by
 have:((⟨a.toArray⟩:ByteArray) == ⟨b.toArray⟩)=(a.toArray == b.toArray):=rfl
 rw [this,Bool.eq_iff_iff]
 simp
theorem at2_neq {t ts:TypeId} (hS:Sty P t [(ts,0),(3,1)]) (h9:P.underlying ts=some .string) (h3:P.underlying 3=some (.int .i64)) {cx cy:Bool} (a b:At):evBin P .neq t cx cy (.agg [sv a.id,iv a.n]) (.agg [sv b.id,iv b.n])=some (bv (decide (a≠b))):=by
 have h:=(sty_eql (cx:=cx) (cy:=cy) (xs:=[sv a.id,iv a.n]) (ys:=[sv b.id,iv b.n]) (vs:=[.string ⟨a.id.toArray⟩,.int .i64 a.n]) (us:=[.string ⟨b.id.toArray⟩,.int .i64 b.n]) hS (fun p=>if p.2=0 then (⟨a.id.toArray⟩:ByteArray) == ⟨b.id.toArray⟩ else a.n == b.n) rfl rfl (by
  intro p hp
  simp only [List.mem_cons,List.not_mem_nil,or_false] at hp
  rcases hp with rfl | rfl
  ·exact ⟨_,_,pureRun_part h9 rfl rfl,pureRun_part h9 rfl rfl,pureRun_equal_string h9⟩
  ·exact ⟨_,_,pureRun_part h3 rfl rfl,pureRun_part h3 rfl rfl,pureRun_equal_int h3⟩)).2
 rw [h]
 congr 3
 obtain ⟨a1,a2⟩:=a
 obtain ⟨b1,b2⟩:=b
 rw [Bool.eq_iff_iff]
 simp [ba_beq]
theorem at_neq (T:TI P) {cx cy:Bool} (a b:At):evBin P .neq 190 cx cy (.agg [sv a.id,iv a.n]) (.agg [sv b.id,iv b.n])=some (bv (decide (a≠b))):=at2_neq T.rat T.t9 T.t3 a b
theorem ver2_eq {t ts:TypeId} (hS:Sty P t [(ts,0),(3,1),(3,2)]) (h9:P.underlying ts=some .string) (h3:P.underlying 3=some (.int .i64)) (d:Nat) (a b:Item):pureRun P (Op.equalIn (d+2) t (.agg #[.string ⟨a.id.toArray⟩,.int .i64 a.seq,.int .i64 a.stamp]) (.agg #[.string ⟨b.id.toArray⟩,.int .i64 b.seq,.int .i64 b.stamp]))=some (decide (a.id=b.id∧a.seq=b.seq∧a.stamp=b.stamp)):=by
 have:=sty_equal (d:=d+1) (xs:=#[.string ⟨a.id.toArray⟩,.int .i64 a.seq,.int .i64 a.stamp]) (ys:=#[.string ⟨b.id.toArray⟩,.int .i64 b.seq,.int .i64 b.stamp]) hS (fun p=>if p.2=0 then (⟨a.id.toArray⟩:ByteArray) == ⟨b.id.toArray⟩ else if p.2=1 then a.seq == b.seq else a.stamp == b.stamp) (by
  intro p hp
  simp only [List.mem_cons,List.not_mem_nil,or_false] at hp
  rcases hp with rfl | rfl | rfl
  ·exact ⟨_,_,pureRun_part h9 rfl rfl,pureRun_part h9 rfl rfl,pureRun_equal_string h9⟩
  ·exact ⟨_,_,pureRun_part h3 rfl rfl,pureRun_part h3 rfl rfl,pureRun_equal_int h3⟩
  ·exact ⟨_,_,pureRun_part h3 rfl rfl,pureRun_part h3 rfl rfl,pureRun_equal_int h3⟩)
 rw [this]
 congr 1
 rw [Bool.eq_iff_iff]
 simp [ba_beq]
theorem place2_eq (T:TI P) (d:Nat) (a b:Item):pureRun P (Op.equalIn (d+2) 28 (.agg #[.int .i64 a.x,.int .i64 a.y]) (.agg #[.int .i64 b.x,.int .i64 b.y]))=some (decide (a.x=b.x∧a.y=b.y)):=by
 have h3:=T.t3
 have:=sty_equal (d:=d+1) (xs:=#[.int .i64 a.x,.int .i64 a.y]) (ys:=#[.int .i64 b.x,.int .i64 b.y]) T.place (fun p=>if p.2=0 then a.x == b.x else a.y == b.y) (by
  intro p hp
  simp only [List.mem_cons,List.not_mem_nil,or_false] at hp
  rcases hp with rfl | rfl
  ·exact ⟨_,_,pureRun_part h3 rfl rfl,pureRun_part h3 rfl rfl,pureRun_equal_int h3⟩
  ·exact ⟨_,_,pureRun_part h3 rfl rfl,pureRun_part h3 rfl rfl,pureRun_equal_int h3⟩)
 rw [this]
 congr 1
 rw [Bool.eq_iff_iff]
 simp
theorem ritem_neq (T:TI P) {cx cy:Bool} (a b:Item):evBin P .neq 79 cx cy (.agg (itR a)) (.agg (itR b))=some (bv (decide (a≠b))):=by
 have h3:=T.t3
 have h4:=T.t4
 have h9:=T.t9
 have h:=(sty_eql (cx:=cx) (cy:=cy) (xs:=itR a) (ys:=itR b) (vs:=[.int .i64 a.key,.string ⟨a.id.toArray⟩,.int .i64 a.seq,.int .i64 a.stamp,.bool a.dead,.int .i64 a.x,.int .i64 a.y,.string ⟨a.text.toArray⟩,.bool a.held]) (us:=[.int .i64 b.key,.string ⟨b.id.toArray⟩,.int .i64 b.seq,.int .i64 b.stamp,.bool b.dead,.int .i64 b.x,.int .i64 b.y,.string ⟨b.text.toArray⟩,.bool b.held]) T.ritem
  (fun p=>if p.2=0 then a.key == b.key else if p.2=1 then decide (a.id=b.id∧a.seq=b.seq∧a.stamp=b.stamp) else if p.2=4 then a.dead == b.dead else if p.2=5 then decide (a.x=b.x∧a.y=b.y) else if p.2=7 then (⟨a.text.toArray⟩:ByteArray) == ⟨b.text.toArray⟩ else a.held == b.held) rfl rfl (by
  intro p hp
  simp only [List.mem_cons,List.not_mem_nil,or_false] at hp
  rcases hp with rfl | rfl | rfl | rfl | rfl | rfl
  ·exact ⟨_,_,pureRun_part h3 rfl rfl,pureRun_part h3 rfl rfl,pureRun_equal_int h3⟩
  ·exact ⟨_,_,sty_part T.rver T.rverS,sty_part T.rver T.rverS,ver2_eq T.rver h9 h3 9997 a b⟩
  ·exact ⟨_,_,pureRun_part h4 rfl rfl,pureRun_part h4 rfl rfl,pureRun_equal_bool h4⟩
  ·exact ⟨_,_,sty_part T.place T.placeS,sty_part T.place T.placeS,place2_eq T 9997 a b⟩
  ·exact ⟨_,_,pureRun_part h9 rfl rfl,pureRun_part h9 rfl rfl,pureRun_equal_string h9⟩
  ·exact ⟨_,_,pureRun_part h4 rfl rfl,pureRun_part h4 rfl rfl,pureRun_equal_bool h4⟩)).2
 rw [h]
 congr 3
 obtain ⟨a1,a2,a3,a4,a5,a6,a7,a8,a9⟩:=a
 obtain ⟨b1,b2,b3,b4,b5,b6,b7,b8,b9⟩:=b
 rw [Bool.eq_iff_iff]
 simp [ba_beq,or_assoc]
end Go.Evl.Zone

namespace Go.Evl.Zone
open Go Go.Evl
variable {P:Program}
open Go.Evl.Fl
end Go.Evl.Zone

namespace Go.Evl.Zone
open Go Go.Evl
variable {P:Program}
theorem rsame1_loop  {L M:List Bytes} {ks:List Fr'} {K:Ex→St→Prop} (hlen:L.length=M.length) (hL:L.length≤most):∀ (rest:List Bytes) (i:Nat) (st:St),L.drop i=rest→i≤L.length→L.take i=M.take i→st.σ 0=lv L→st.σ 1=lv M→st.σ 5=iv i →
  (∀ st',L≠M→st'.σ 4=bv false→K .ret st')→(∀ st',L=M→VN (env P) 74 st' ks K)→V (env P) 74 (.loop L74_0) st (.blk 0::ks) K
 | [],i,st,hr,hi,hp,h0,h1,h5,hret,hend=>by
   obtain ⟨he,hlt,ht⟩:=drop_nil hr hi
   rw [V_loop]
   simp [L74_0,h0,h5,hlt]
   refine hend _ ?_
   rw [ht,he,hlen,List.take_length] at hp
   exact hp
 | q::rest,i,st,hr,hi,hp,h0,h1,h5,hret,hend=>by
   obtain ⟨hq,hlt,hr',ht⟩:=drop_cons hr
   have hmq:=List.mem_of_getElem? hq
   have hc:=En_at hq
   have hm:M[i]?=some (M[i]'(by omega)):=List.getElem?_eq_getElem (by omega)
   generalize M[i]'(by omega)=m at hm
   have hmm:=List.mem_of_getElem? hm
   have hd:=En_at hm
   have hltM:i < M.length:=by omega
   have hw3:=wrapS (i:=i) (by unfold most at hL; omega)
   have key:∀ st',q=m→st'.σ 0=lv L→st'.σ 1=lv M→st'.σ 5=iv ((i+1:Nat):Int)→V (env P) 74 (.loop L74_0) st' (.blk 0::ks) K:=fun st' e g0 g1 g5=>by
    refine rsame1_loop hlen hL rest (i+1) st' hr' (by omega) ?_ g0 g1 g5 hret hend
    rw [ht,List.take_add_one,hm,hp,e]; rfl
   have key2:q≠m→L≠M:=fun hqm e=>by
    rw [e] at hq
    rw [hq] at hm
    exact hqm (Option.some.inj hm)
   rw [V_loop]
   have hn:=fun t cx cy=>evBin_sneq (P:=P) (t:=t) (cx:=cx) (cy:=cy) q m
   simp [L74_0,h0,h1,h5,hlt,hltM,hc,hd,hw3,hn]
   repeat' (first
    | (refine VG_sp (fun h=>?_) (fun h=>?_) <;> simp [h,h0,h1,h5,hlt,hltM,hc,hd,hw3,hn])
    | (refine VB_sp (fun h=>?_) (fun h=>?_) <;> simp [h,h0,h1,h5,hlt,hltM,hc,hd,hw3,hn]))
   all_goals first
    | exact hret _ (key2 (by simp_all)) (by simp)
    | exact key _ (by simp_all) (by simp [h0]) (by simp [h1]) (by simp [h5,hw3])
theorem rsame1_ans  {l m:List Bytes} (hl:l.length≤most):ans (env P) 74 [lv l,lv m]=some (bv (decide (l=m))):=by
 refine ans_V rfl rfl ?_
 by_cases hlen:l.length=m.length
 ·have hlen':(l.length:Int)=(m.length:Int):=by omega
  simp [c74,hlen']
  refine rsame1_loop hlen hl l 0 _ rfl (by omega) rfl (by simp) (by simp) (by simp) ?_ ?_
  ·intro st' hne h4; simp [h4,hne]
  ·intro st' he; simp [he]
 ·have hlen':¬ (l.length:Int)=(m.length:Int):=by omega
  have hne:l≠m:=fun e=>hlen (by rw [e])
  simp [c74,hlen',hne]
theorem rsame3_loop  {L M:List At} (T:TI P) {ks:List Fr'} {K:Ex→St→Prop} (hlen:L.length=M.length) (hL:L.length≤most):∀ (rest:List At) (i:Nat) (st:St),L.drop i=rest→i≤L.length→L.take i=M.take i→st.σ 0=lv L→st.σ 1=lv M→st.σ 5=iv i →
  (∀ st',L≠M→st'.σ 4=bv false→K .ret st')→(∀ st',L=M→VN (env P) 72 st' ks K)→V (env P) 72 (.loop L72_0) st (.blk 0::ks) K
 | [],i,st,hr,hi,hp,h0,h1,h5,hret,hend=>by
   obtain ⟨he,hlt,ht⟩:=drop_nil hr hi
   rw [V_loop]
   simp [L72_0,h0,h5,hlt]
   refine hend _ ?_
   rw [ht,he,hlen,List.take_length] at hp
   exact hp
 | q::rest,i,st,hr,hi,hp,h0,h1,h5,hret,hend=>by
   obtain ⟨hq,hlt,hr',ht⟩:=drop_cons hr
   have hmq:=List.mem_of_getElem? hq
   have hc:=En_at hq
   have hm:M[i]?=some (M[i]'(by omega)):=List.getElem?_eq_getElem (by omega)
   generalize M[i]'(by omega)=m at hm
   have hmm:=List.mem_of_getElem? hm
   have hd:=En_at hm
   have hltM:i < M.length:=by omega
   have hw3:=wrapS (i:=i) (by unfold most at hL; omega)
   have key:∀ st',q=m→st'.σ 0=lv L→st'.σ 1=lv M→st'.σ 5=iv ((i+1:Nat):Int)→V (env P) 72 (.loop L72_0) st' (.blk 0::ks) K:=fun st' e g0 g1 g5=>by
    refine rsame3_loop T hlen hL rest (i+1) st' hr' (by omega) ?_ g0 g1 g5 hret hend
    rw [ht,List.take_add_one,hm,hp,e]; rfl
   have key2:q≠m→L≠M:=fun hqm e=>by
    rw [e] at hq
    rw [hq] at hm
    exact hqm (Option.some.inj hm)
   rw [V_loop]
   have hn:=fun cx cy=>at_neq T (cx:=cx) (cy:=cy) q m
   simp [L72_0,h0,h1,h5,hlt,hltM,hc,hd,hw3,hn]
   repeat' (first
    | (refine VG_sp (fun h=>?_) (fun h=>?_) <;> simp [h,h0,h1,h5,hlt,hltM,hc,hd,hw3,hn])
    | (refine VB_sp (fun h=>?_) (fun h=>?_) <;> simp [h,h0,h1,h5,hlt,hltM,hc,hd,hw3,hn]))
   all_goals first
    | exact hret _ (key2 (by simp_all)) (by simp)
    | exact key _ (by simp_all) (by simp [h0]) (by simp [h1]) (by simp [h5,hw3])
theorem rsame3_ans  {l m:List At} (T:TI P) (hl:l.length≤most):ans (env P) 72 [lv l,lv m]=some (bv (decide (l=m))):=by
 refine ans_V rfl rfl ?_
 by_cases hlen:l.length=m.length
 ·have hlen':(l.length:Int)=(m.length:Int):=by omega
  simp [c72,hlen']
  refine rsame3_loop T hlen hl l 0 _ rfl (by omega) rfl (by simp) (by simp) (by simp) ?_ ?_
  ·intro st' hne h4; simp [h4,hne]
  ·intro st' he; simp [he]
 ·have hlen':¬ (l.length:Int)=(m.length:Int):=by omega
  have hne:l≠m:=fun e=>hlen (by rw [e])
  simp [c72,hlen',hne]
theorem rsame8_loop  {L M:List Item} (T:TI P) {ks:List Fr'} {K:Ex→St→Prop} (hlen:L.length=M.length) (hL:L.length≤most):∀ (rest:List Item) (i:Nat) (st:St),L.drop i=rest→i≤L.length→L.take i=M.take i→st.σ 0=lvR L→st.σ 1=lvR M→st.σ 5=iv i →
  (∀ st',L≠M→st'.σ 4=bv false→K .ret st')→(∀ st',L=M→VN (env P) 49 st' ks K)→V (env P) 49 (.loop L49_0) st (.blk 0::ks) K
 | [],i,st,hr,hi,hp,h0,h1,h5,hret,hend=>by
   obtain ⟨he,hlt,ht⟩:=drop_nil hr hi
   rw [V_loop]
   simp [L49_0,h0,h5,hlt]
   refine hend _ ?_
   rw [ht,he,hlen,List.take_length] at hp
   exact hp
 | q::rest,i,st,hr,hi,hp,h0,h1,h5,hret,hend=>by
   obtain ⟨hq,hlt,hr',ht⟩:=drop_cons hr
   have hmq:=List.mem_of_getElem? hq
   have hc:=EnR_at hq
   have hm:M[i]?=some (M[i]'(by omega)):=List.getElem?_eq_getElem (by omega)
   generalize M[i]'(by omega)=m at hm
   have hmm:=List.mem_of_getElem? hm
   have hd:=EnR_at hm
   have hltM:i < M.length:=by omega
   have hw3:=wrapS (i:=i) (by unfold most at hL; omega)
   have key:∀ st',q=m→st'.σ 0=lvR L→st'.σ 1=lvR M→st'.σ 5=iv ((i+1:Nat):Int)→V (env P) 49 (.loop L49_0) st' (.blk 0::ks) K:=fun st' e g0 g1 g5=>by
    refine rsame8_loop T hlen hL rest (i+1) st' hr' (by omega) ?_ g0 g1 g5 hret hend
    rw [ht,List.take_add_one,hm,hp,e]; rfl
   have key2:q≠m→L≠M:=fun hqm e=>by
    rw [e] at hq
    rw [hq] at hm
    exact hqm (Option.some.inj hm)
   rw [V_loop]
   have hn:=fun cx cy=>ritem_neq T (cx:=cx) (cy:=cy) q m
   simp [L49_0,h0,h1,h5,hlt,hltM,hc,hd,hw3,hn]
   repeat' (first
    | (refine VG_sp (fun h=>?_) (fun h=>?_) <;> simp [h,h0,h1,h5,hlt,hltM,hc,hd,hw3,hn])
    | (refine VB_sp (fun h=>?_) (fun h=>?_) <;> simp [h,h0,h1,h5,hlt,hltM,hc,hd,hw3,hn]))
   all_goals first
    | exact hret _ (key2 (by simp_all)) (by simp)
    | exact key _ (by simp_all) (by simp [h0]) (by simp [h1]) (by simp [h5,hw3])
theorem rsame8_ans  {l m:List Item} (T:TI P) (hl:l.length≤most):ans (env P) 49 [lvR l,lvR m]=some (bv (decide (l=m))):=by
 refine ans_V rfl rfl ?_
 by_cases hlen:l.length=m.length
 ·have hlen':(l.length:Int)=(m.length:Int):=by omega
  simp [c49,hlen']
  refine rsame8_loop T hlen hl l 0 _ rfl (by omega) rfl (by simp) (by simp) (by simp) ?_ ?_
  ·intro st' hne h4; simp [h4,hne]
  ·intro st' he; simp [he]
 ·have hlen':¬ (l.length:Int)=(m.length:Int):=by omega
  have hne:l≠m:=fun e=>hlen (by rw [e])
  simp [c49,hlen',hne]
theorem rsame10_loop  {L M:List MRow} (T:TI P) (hv:∀ a∈L,a.vec.length≤most) {ks:List Fr'} {K:Ex→St→Prop} (hlen:L.length=M.length) (hL:L.length≤most):∀ (rest:List MRow) (i:Nat) (st:St),L.drop i=rest→i≤L.length→L.take i=M.take i→st.σ 0=lv L→st.σ 1=lv M→st.σ 5=iv i →
  (∀ st',L≠M→st'.σ 4=bv false→K .ret st')→(∀ st',L=M→VN (env P) 75 st' ks K)→V (env P) 75 (.loop L75_0) st (.blk 0::ks) K
 | [],i,st,hr,hi,hp,h0,h1,h5,hret,hend=>by
   obtain ⟨he,hlt,ht⟩:=drop_nil hr hi
   rw [V_loop]
   simp [L75_0,h0,h5,hlt]
   refine hend _ ?_
   rw [ht,he,hlen,List.take_length] at hp
   exact hp
 | q::rest,i,st,hr,hi,hp,h0,h1,h5,hret,hend=>by
   obtain ⟨hq,hlt,hr',ht⟩:=drop_cons hr
   have hmq:=List.mem_of_getElem? hq
   have hc:=En_at hq
   have hm:M[i]?=some (M[i]'(by omega)):=List.getElem?_eq_getElem (by omega)
   generalize M[i]'(by omega)=m at hm
   have hmm:=List.mem_of_getElem? hm
   have hd:=En_at hm
   have hltM:i < M.length:=by omega
   have hw3:=wrapS (i:=i) (by unfold most at hL; omega)
   have key:∀ st',q=m→st'.σ 0=lv L→st'.σ 1=lv M→st'.σ 5=iv ((i+1:Nat):Int)→V (env P) 75 (.loop L75_0) st' (.blk 0::ks) K:=fun st' e g0 g1 g5=>by
    refine rsame10_loop T hv hlen hL rest (i+1) st' hr' (by omega) ?_ g0 g1 g5 hret hend
    rw [ht,List.take_add_one,hm,hp,e]; rfl
   have key2:q≠m→L≠M:=fun hqm e=>by
    rw [e] at hq
    rw [hq] at hm
    exact hqm (Option.some.inj hm)
   rw [V_loop]
   have hn:=fun t cx cy=>evBin_sneq (P:=P) (t:=t) (cx:=cx) (cy:=cy) q.id m.id
   have hs:=rsame3_ans (P:=P) (l:=q.vec) (m:=m.vec) T (hv q hmq)
   simp [L75_0,h0,h1,h5,hlt,hltM,hc,hd,hw3,hn,hs]
   repeat' (first
    | (refine VG_sp (fun h=>?_) (fun h=>?_) <;> simp [h,h0,h1,h5,hlt,hltM,hc,hd,hw3,hn,hs])
    | (refine VB_sp (fun h=>?_) (fun h=>?_) <;> simp [h,h0,h1,h5,hlt,hltM,hc,hd,hw3,hn,hs]))
   all_goals first
    | exact hret _ (key2 (by intro e; cases q; cases m; simp_all)) (by simp)
    | exact key _ (by cases q; cases m; simp_all) (by simp [h0]) (by simp [h1]) (by simp [h5,hw3])
theorem rsame10_ans  {l m:List MRow} (T:TI P) (hv:∀ a∈l,a.vec.length≤most) (hl:l.length≤most):ans (env P) 75 [lv l,lv m]=some (bv (decide (l=m))):=by
 refine ans_V rfl rfl ?_
 by_cases hlen:l.length=m.length
 ·have hlen':(l.length:Int)=(m.length:Int):=by omega
  simp [c75,hlen']
  refine rsame10_loop T hv hlen hl l 0 _ rfl (by omega) rfl (by simp) (by simp) (by simp) ?_ ?_
  ·intro st' hne h4; simp [h4,hne]
  ·intro st' he; simp [he]
 ·have hlen':¬ (l.length:Int)=(m.length:Int):=by omega
  have hne:l≠m:=fun e=>hlen (by rw [e])
  simp [c75,hlen',hne]
theorem rsame2_loop {L M:List Int} {u w:Int} {ks:List Fr'} {K:Ex→St→Prop} (hlen:L.length=M.length) (hL:L.length≤most):∀ (rest:List Int) (i:Nat) (st:St),L.drop i=rest→i≤L.length→L.take i=M.take i→(∃ a b,st.σ 2 = .ptr a 0∧st.σ 3 = .ptr b 0∧st.h.at_ a = .box [iv u,lv L]∧st.h.at_ b = .box [iv w,lv M]∧a < st.h.n∧b < st.h.n)→st.σ 5=iv i →
  (∀ st',L≠M→st'.σ 4=bv false→K .ret st')→(∀ st',L=M→VN (env P) 116 st' ks K)→V (env P) 116 (.loop L116_0) st (.blk 0::ks) K
 | [],i,st,hr,hi,hp,⟨a,b,h2,h3,ha,hb,an,bn⟩,h5,hret,hend=>by
   obtain ⟨he,hlt,ht⟩:=drop_nil hr hi
   rw [V_loop]
   simp [L116_0,h2,h3,ha,hb,an,bn,h5,hlt]
   refine hend _ ?_
   rw [ht,he,hlen,List.take_length] at hp
   exact hp
 | q::rest,i,st,hr,hi,hp,⟨a,b,h2,h3,ha,hb,an,bn⟩,h5,hret,hend=>by
   obtain ⟨hq,hlt,hr',ht⟩:=drop_cons hr
   have hc:=En_at hq
   have hm:M[i]?=some (M[i]'(by omega)):=List.getElem?_eq_getElem (by omega)
   generalize M[i]'(by omega)=m at hm
   have hd:=En_at hm
   have hltM:i < M.length:=by omega
   have hw3:=wrapS (i:=i) (by unfold most at hL; omega)
   rw [V_loop]
   by_cases hqm:q=m
   ·simp [L116_0,h2,h3,ha,hb,an,bn,h5,hlt,hltM,hc,hd,hw3,hqm]
    refine rsame2_loop (u:=u) (w:=w) hlen hL rest (i+1) _ hr' (by omega) ?_ ⟨a,b,by simp [h2],by simp [h3],by simp [ha,an],by simp [hb,bn],by simp; omega,by simp; omega⟩ (by simp) hret hend
    rw [ht,List.take_add_one,hm,hp,hqm]; rfl
   ·simp [L116_0,h2,h3,ha,hb,an,bn,h5,hlt,hltM,hc,hd,hw3,hqm]
    refine hret _ (fun e=>?_) (by simp)
    rw [e] at hq
    rw [hq] at hm
    exact hqm (Option.some.inj hm)
theorem rsame2_ans {u w:Int} {l m:List Int} (hl:l.length≤most):ans (env P) 116 [.agg [iv u,lv l],.agg [iv w,lv m]]=some (bv (decide (u=w∧l=m))):=by
 refine ans_V rfl rfl ?_
 by_cases hu:u=w
 ·by_cases hlen:l.length=m.length
  ·have hlen':(l.length:Int)=(m.length:Int):=by omega
   simp [c116,hu,hlen']
   refine rsame2_loop (u:=w) (w:=w) hlen hl l 0 _ rfl (by omega) rfl ⟨0,1,by simp,by simp,by simp,by simp,by simp,by simp⟩ (by simp) ?_ ?_
   ·intro st' hne h4; simp [h4,hne]
   ·intro st' he; simp [he]
  ·have hlen':¬ (l.length:Int)=(m.length:Int):=by omega
   have hne:l≠m:=fun e=>hlen (by rw [e])
   simp [c116,hu,hlen',hne]
 ·simp [c116,hu]
theorem rsame4_loop  {L M:List KRow} (hv:∀ a∈L,a.extra.length≤most) {ks:List Fr'} {K:Ex→St→Prop} (hlen:L.length=M.length) (hL:L.length≤most):∀ (rest:List KRow) (i:Nat) (st:St),L.drop i=rest→i≤L.length→L.take i=M.take i→st.σ 0=lv L→st.σ 1=lv M→st.σ 5=iv i →
  (∀ st',L≠M→st'.σ 4=bv false→K .ret st')→(∀ st',L=M→VN (env P) 42 st' ks K)→V (env P) 42 (.loop L42_0) st (.blk 0::ks) K
 | [],i,st,hr,hi,hp,h0,h1,h5,hret,hend=>by
   obtain ⟨he,hlt,ht⟩:=drop_nil hr hi
   rw [V_loop]
   simp [L42_0,h0,h5,hlt]
   refine hend _ ?_
   rw [ht,he,hlen,List.take_length] at hp
   exact hp
 | q::rest,i,st,hr,hi,hp,h0,h1,h5,hret,hend=>by
   obtain ⟨hq,hlt,hr',ht⟩:=drop_cons hr
   have hmq:=List.mem_of_getElem? hq
   have hc:=En_at hq
   have hm:M[i]?=some (M[i]'(by omega)):=List.getElem?_eq_getElem (by omega)
   generalize M[i]'(by omega)=m at hm
   have hmm:=List.mem_of_getElem? hm
   have hd:=En_at hm
   have hltM:i < M.length:=by omega
   have hw3:=wrapS (i:=i) (by unfold most at hL; omega)
   have key:∀ st',q=m→st'.σ 0=lv L→st'.σ 1=lv M→st'.σ 5=iv ((i+1:Nat):Int)→V (env P) 42 (.loop L42_0) st' (.blk 0::ks) K:=fun st' e g0 g1 g5=>by
    refine rsame4_loop hv hlen hL rest (i+1) st' hr' (by omega) ?_ g0 g1 g5 hret hend
    rw [ht,List.take_add_one,hm,hp,e]; rfl
   have key2:q≠m→L≠M:=fun hqm e=>by
    rw [e] at hq
    rw [hq] at hm
    exact hqm (Option.some.inj hm)
   rw [V_loop]
   have hn:=fun t cx cy=>evBin_sneq (P:=P) (t:=t) (cx:=cx) (cy:=cy) q.id m.id
   have hs:=rsame2_ans (P:=P) (u:=q.upto) (w:=m.upto) (l:=q.extra) (m:=m.extra) (hv q hmq)
   simp [L42_0,h0,h1,h5,hlt,hltM,hc,hd,hw3,hn,hs]
   repeat' (first
    | (refine VG_sp (fun h=>?_) (fun h=>?_) <;> simp [h,h0,h1,h5,hlt,hltM,hc,hd,hw3,hn,hs])
    | (refine VB_sp (fun h=>?_) (fun h=>?_) <;> simp [h,h0,h1,h5,hlt,hltM,hc,hd,hw3,hn,hs]))
   all_goals first
    | exact hret _ (key2 (by intro e; cases q; cases m; simp_all)) (by simp)
    | exact key _ (by cases q; cases m; simp_all) (by simp [h0]) (by simp [h1]) (by simp [h5,hw3])
theorem rsame4_ans  {l m:List KRow} (hv:∀ a∈l,a.extra.length≤most) (hl:l.length≤most):ans (env P) 42 [lv l,lv m]=some (bv (decide (l=m))):=by
 refine ans_V rfl rfl ?_
 by_cases hlen:l.length=m.length
 ·have hlen':(l.length:Int)=(m.length:Int):=by omega
  simp [c42,hlen']
  refine rsame4_loop hv hlen hl l 0 _ rfl (by omega) rfl (by simp) (by simp) (by simp) ?_ ?_
  ·intro st' hne h4; simp [h4,hne]
  ·intro st' he; simp [he]
 ·have hlen':¬ (l.length:Int)=(m.length:Int):=by omega
  have hne:l≠m:=fun e=>hlen (by rw [e])
  simp [c42,hlen',hne]
end Go.Evl.Zone

namespace Go.Evl.Zone
open Go Go.Evl
variable {P:Program}
open Go.Evl.Fl
theorem from1_loop  {v:List Bytes} {ks:List Fr'} {K:Ex→St→Prop} (hL:v.length≤most):∀ (rest:List Bytes) (i:Nat) (st:St) (a:PV),v.drop i=rest→i≤v.length→st.σ 0=lv v→st.σ 4=iv i→st.σ 3=a→Lst st.h 1 a (En (v.take i)) →
  (∀ st' a,st'.σ 3=a→Lst st'.h 1 a (En v)→VN (env P) 78 st' ks K)→V (env P) 78 (.loop L78_0) st (.blk 0::ks) K
 | [],i,st,a,hr,hile,h0,hi,ha,hl,hend=>by
   obtain ⟨hii,hlt,hd⟩:=drop_nil hr hile
   rw [hd] at hl
   rw [V_loop]
   simp [L78_0,h0,hi,hlt]
   exact hend _ a (by simp [ha]) (by simpa using hl.grow)
 | q::rest,i,st,a,hr,hile,h0,hi,ha,hl,hend=>by
   obtain ⟨hq,hlt,hr',ht⟩:=drop_cons hr
   have hmq:=List.mem_of_getElem? hq
   have hc:=En_at hq
   have hw:=wrapS (i:=i) (by unfold most at hL; omega)
   rw [V_loop]
   simp [L78_0,h0,hi,hlt,hc,hw,ha,chunks,elems,allLen]
   refine VP_app (ys:=En (v.take i)) (by repeat (first | exact hl | refine Lst.grow ?_ | refine Lst.putN ?_ (by simp))) (by simp) (by simp) rfl (by simp; omega) fun v' H' wr rd e2 e3 _=>?_
   simp [h0,hi,hw,e3]
   refine from1_loop hL rest (i+1) _ v' hr' (by omega) (by simp [h0]) (by simp) (by simp) ?_ hend
   rw [ht,En_append]
   exact e2.grow
theorem from1_ans  {v:List Bytes} (hL:v.length≤most):ans (env P) 78 [lv v]=some (.im (En v) false):=by
 refine ans_V rfl rfl ?_
 simp [c78]
 refine from1_loop hL v 0 _ _ rfl (by omega) (by simp) (by simp) rfl (by simp; exact Lst.nil) ?_
 intro st' a h3 hl
 simp [h3]
 exact (hl.grow (m:=0)).expV (plainss_En _)
theorem from3_loop  {v:List At} {ks:List Fr'} {K:Ex→St→Prop} (hL:v.length≤most):∀ (rest:List At) (i:Nat) (st:St) (a:PV),v.drop i=rest→i≤v.length→st.σ 0=lv v→st.σ 4=iv i→st.σ 3=a→Lst st.h 2 a (En (v.take i)) →
  (∀ st' a,st'.σ 3=a→Lst st'.h 2 a (En v)→VN (env P) 76 st' ks K)→V (env P) 76 (.loop L76_0) st (.blk 0::ks) K
 | [],i,st,a,hr,hile,h0,hi,ha,hl,hend=>by
   obtain ⟨hii,hlt,hd⟩:=drop_nil hr hile
   rw [hd] at hl
   rw [V_loop]
   simp [L76_0,h0,hi,hlt]
   exact hend _ a (by simp [ha]) (by simpa using hl.grow)
 | q::rest,i,st,a,hr,hile,h0,hi,ha,hl,hend=>by
   obtain ⟨hq,hlt,hr',ht⟩:=drop_cons hr
   have hmq:=List.mem_of_getElem? hq
   have hc:=En_at hq
   have hw:=wrapS (i:=i) (by unfold most at hL; omega)
   rw [V_loop]
   simp [L76_0,h0,hi,hlt,hc,hw,ha,chunks,elems,allLen]
   refine VP_app (ys:=En (v.take i)) (by repeat (first | exact hl | refine Lst.grow ?_ | refine Lst.putN ?_ (by simp))) (by simp) (by simp) rfl (by simp; omega) fun v' H' wr rd e2 e3 _=>?_
   simp [h0,hi,hw,e3]
   refine from3_loop hL rest (i+1) _ v' hr' (by omega) (by simp [h0]) (by simp) (by simp) ?_ hend
   rw [ht,En_append]
   exact e2.grow
theorem from3_ans  {v:List At} (hL:v.length≤most):ans (env P) 76 [lv v]=some (.im (En v) false):=by
 refine ans_V rfl rfl ?_
 simp [c76]
 refine from3_loop hL v 0 _ _ rfl (by omega) (by simp) (by simp) rfl (by simp; exact Lst.nil) ?_
 intro st' a h3 hl
 simp [h3]
 exact (hl.grow (m:=0)).expV (plainss_En _)
theorem from2_ans {u:Int} {l:List Int} (hL:l.length≤most):ans (env P) 89 [.agg [iv u,lv l]]=some (.agg [iv u,lv l]):=by
 refine ans_V rfl rfl ?_
 simp [c89,chunks,elems,allLen]
 refine VP_appN (ys:=En ([]:List Int)) (N:=2) LN.nil (by simp) (by simp) (by simp) (by simp) (by simp; omega) fun v' H' wr rd e2' e3 e4 _ e6=>?_
 have e2:=e2'.l
 have w0:∀ x∈wr,¬ x=0:=fun x hx=>by have:=e6 x hx; omega
 have w1:∀ x∈wr,¬ x=1:=fun x hx=>by have:=e6 x hx; omega
 have b0:=e4 0
 have b1:=e4 1
 simp at b0 b1
 rw [← En_append,List.nil_append] at e2
 cases e2 with
 | im hv hl =>
   subst hv
   simp [b0,b1,e3]
   try exact w0
 | row r xs hv hb hle he hr hl =>
   subst hv
   have hr1:¬ r=1:=by intro e; subst e; rw [b1] at hb; cases hb
   have hp:=plainss_En l
   simp only [En_length] at he hle
   simp [e3] at hr
   simp [b0,b1,e3,hb,hr1,hle,he,hp,hr]
   try exact w0
theorem from4_loop  {v:List KRow} (he:∀ r∈v,r.extra.length≤most) {ks:List Fr'} {K:Ex→St→Prop} (hL:v.length≤most):∀ (rest:List KRow) (i:Nat) (st:St) (a:PV),v.drop i=rest→i≤v.length→st.σ 0=lv v→st.σ 4=iv i→st.σ 3=a→Lst st.h 3 a (En (v.take i)) →
  (∀ st' a,st'.σ 3=a→Lst st'.h 3 a (En v)→VN (env P) 20 st' ks K)→V (env P) 20 (.loop L20_0) st (.blk 0::ks) K
 | [],i,st,a,hr,hile,h0,hi,ha,hl,hend=>by
   obtain ⟨hii,hlt,hd⟩:=drop_nil hr hile
   rw [hd] at hl
   rw [V_loop]
   simp [L20_0,h0,hi,hlt]
   exact hend _ a (by simp [ha]) (by simpa using hl.grow)
 | q::rest,i,st,a,hr,hile,h0,hi,ha,hl,hend=>by
   obtain ⟨hq,hlt,hr',ht⟩:=drop_cons hr
   have hmq:=List.mem_of_getElem? hq
   have hc:=En_at hq
   have hw:=wrapS (i:=i) (by unfold most at hL; omega)
   have hS:=from2_ans (P:=P) (u:=q.upto) (l:=q.extra) (he q hmq)
   rw [V_loop]
   simp [L20_0,h0,hi,hlt,hc,hw,ha,hS,chunks,elems,allLen]
   refine VP_app (ys:=En (v.take i)) (by repeat (first | exact hl | refine Lst.grow ?_ | refine Lst.putN ?_ (by simp))) (by simp) (by simp) rfl (by simp; omega) fun v' H' wr rd e2 e3 _=>?_
   simp [h0,hi,hw,e3]
   refine from4_loop he hL rest (i+1) _ v' hr' (by omega) (by simp [h0]) (by simp) (by simp) ?_ hend
   rw [ht,En_append]
   exact e2.grow
theorem from4_ans  {v:List KRow} (he:∀ r∈v,r.extra.length≤most) (hL:v.length≤most):ans (env P) 20 [lv v]=some (.im (En v) false):=by
 refine ans_V rfl rfl ?_
 simp [c20]
 refine from4_loop he hL v 0 _ _ rfl (by omega) (by simp) (by simp) rfl (by simp; exact Lst.nil) ?_
 intro st' a h3 hl
 simp [h3]
 exact (hl.grow (m:=0)).expV (plainss_En _)
theorem from10_loop  {v:List MRow} (he:∀ r∈v,r.vec.length≤most) {ks:List Fr'} {K:Ex→St→Prop} (hL:v.length≤most):∀ (rest:List MRow) (i:Nat) (st:St) (a:PV),v.drop i=rest→i≤v.length→st.σ 0=lv v→st.σ 4=iv i→st.σ 3=a→Lst st.h 2 a (En (v.take i)) →
  (∀ st' a,st'.σ 3=a→Lst st'.h 2 a (En v)→VN (env P) 79 st' ks K)→V (env P) 79 (.loop L79_0) st (.blk 0::ks) K
 | [],i,st,a,hr,hile,h0,hi,ha,hl,hend=>by
   obtain ⟨hii,hlt,hd⟩:=drop_nil hr hile
   rw [hd] at hl
   rw [V_loop]
   simp [L79_0,h0,hi,hlt]
   exact hend _ a (by simp [ha]) (by simpa using hl.grow)
 | q::rest,i,st,a,hr,hile,h0,hi,ha,hl,hend=>by
   obtain ⟨hq,hlt,hr',ht⟩:=drop_cons hr
   have hmq:=List.mem_of_getElem? hq
   have hc:=En_at hq
   have hw:=wrapS (i:=i) (by unfold most at hL; omega)
   have hS:=from3_ans (P:=P) (v:=q.vec) (he q hmq)
   rw [V_loop]
   simp [L79_0,h0,hi,hlt,hc,hw,ha,hS,chunks,elems,allLen]
   refine VP_app (ys:=En (v.take i)) (by repeat (first | exact hl | refine Lst.grow ?_ | refine Lst.putN ?_ (by simp))) (by simp) (by simp) rfl (by simp; omega) fun v' H' wr rd e2 e3 _=>?_
   simp [h0,hi,hw,e3]
   refine from10_loop he hL rest (i+1) _ v' hr' (by omega) (by simp [h0]) (by simp) (by simp) ?_ hend
   rw [ht,En_append]
   exact e2.grow
theorem from10_ans  {v:List MRow} (he:∀ r∈v,r.vec.length≤most) (hL:v.length≤most):ans (env P) 79 [lv v]=some (.im (En v) false):=by
 refine ans_V rfl rfl ?_
 simp [c79]
 refine from10_loop he hL v 0 _ _ rfl (by omega) (by simp) (by simp) rfl (by simp; exact Lst.nil) ?_
 intro st' a h3 hl
 simp [h3]
 exact (hl.grow (m:=0)).expV (plainss_En _)
theorem place7_ans (T:TI P) {q:Item} (hs:q.sm):ans (env P) 30 [cw q.x q.y]=some (.agg [iv q.x,iv q.y]):=by
 have h1:=hs.1
 have h2:=hs.2
 unfold smI at h1 h2
 exact place_ans (P:=P) T.toTyped3.toTyped2.toTyped T.t33 (sm_is hs.1) (sm_is hs.2) (by omega) (by omega)
theorem from7_ans (T:TI P) {q:Item} (hs:q.sm):ans (env P) 125 [.agg (itP q)]=some (.agg (itR q)):=by
 refine ans_V rfl rfl ?_
 have hS:=place7_ans (P:=P) T (q:=q) hs
 simp only [cw] at hS
 simp [c125,hS]
 repeat' (first
  | (refine VG_sp (fun h=>?_) (fun h=>?_) <;> simp [h,hS])
  | (refine VB_sp (fun h=>?_) (fun h=>?_) <;> simp [h,hS]))
 skip
theorem from8_loop  {v:List Item} (T:TI P) (hs:∀ q∈v,q.sm) {ks:List Fr'} {K:Ex→St→Prop} (hL:v.length≤most):∀ (rest:List Item) (i:Nat) (st:St) (a:PV),v.drop i=rest→i≤v.length→st.σ 0=lvP v→st.σ 4=iv i→st.σ 3=a→Lst st.h 9 a (EnR (v.take i)) →
  (∀ st' a,st'.σ 3=a→Lst st'.h 9 a (EnR v)→VN (env P) 50 st' ks K)→V (env P) 50 (.loop L50_0) st (.blk 0::ks) K
 | [],i,st,a,hr,hile,h0,hi,ha,hl,hend=>by
   obtain ⟨hii,hlt,hd⟩:=drop_nil hr hile
   rw [hd] at hl
   rw [V_loop]
   simp [L50_0,h0,hi,hlt]
   exact hend _ a (by simp [ha]) (by simpa using hl.grow)
 | q::rest,i,st,a,hr,hile,h0,hi,ha,hl,hend=>by
   obtain ⟨hq,hlt,hr',ht⟩:=drop_cons hr
   have hmq:=List.mem_of_getElem? hq
   have hc:=EnP_at hq
   have hw:=wrapS (i:=i) (by unfold most at hL; omega)
   have hS:=from7_ans (P:=P) T (q:=q) (hs q hmq)
   rw [V_loop]
   simp [L50_0,h0,hi,hlt,hc,hw,ha,hS,chunks,elems,allLen]
   refine VP_app (ys:=EnR (v.take i)) (by repeat (first | exact hl | refine Lst.grow ?_ | refine Lst.putN ?_ (by simp))) (by simp) (by simp) rfl (by simp; omega) fun v' H' wr rd e2 e3 _=>?_
   simp [h0,hi,hw,e3]
   refine from8_loop T hs hL rest (i+1) _ v' hr' (by omega) (by simp [h0]) (by simp) (by simp) ?_ hend
   rw [ht,EnR_append]
   exact e2.grow
theorem from8_ans  {v:List Item} (T:TI P) (hs:∀ q∈v,q.sm) (hL:v.length≤most):ans (env P) 50 [lvP v]=some (.im (EnR v) false):=by
 refine ans_V rfl rfl ?_
 simp [c50]
 refine from8_loop T hs hL v 0 _ _ rfl (by omega) (by simp) (by simp) rfl (by simp; exact Lst.nil) ?_
 intro st' a h3 hl
 simp [h3]
 exact (hl.grow (m:=0)).expV (plainss_EnR _)
theorem from5_ans (T:TI P) {l:List RS} (hl:l.length≤most) (hs:∀ q∈l,q.sm):ans (env P) 77 [.im (stepsV (toSI l)) false]=some (.im (rsV l) false):=by
 have hid:(toSI l).map (fun q=>(⟨q.op,q.x,q.y,q.s⟩:RS))=l:=by
  simp only [toSI,List.map_map]
  have:((fun q:SI=>(⟨q.op,q.x,q.y,q.s⟩:RS)) ∘ RS.si)=id:=rfl
  try rw [this]
  try simp
  try rfl
 have:=from_ans (P:=P) T.toTyped3.toTyped2.toTyped T.t33 (l:=toSI l) (by
  intro q hq
  simp [toSI] at hq
  obtain ⟨a,ha,rfl⟩:=hq
  have:=hs a ha
  exact ⟨sm_is this.1,sm_is this.2.1,sm_is this.2.2⟩) (by
  intro q hq
  simp [toSI] at hq
  obtain ⟨a,ha,rfl⟩:=hq
  have h1:=(hs a ha).1
  have h2:=(hs a ha).2.1
  have h3:=(hs a ha).2.2
  unfold smI at h1 h2 h3
  have e1:a.si.x=a.x:=rfl
  have e2:a.si.y=a.y:=rfl
  have e3:a.si.s=a.s:=rfl
  intro z hz
  simp only [List.mem_cons,List.not_mem_nil,or_false,e1,e2,e3] at hz
  rcases hz with rfl | rfl | rfl <;> omega) (by simpa [toSI] using hl)
 rw [hid] at this
 exact this
end Go.Evl.Zone

namespace Go.Evl.Zone
open Go Go.Evl
variable {P:Program}
open Go.Evl.Fl
structure NS where
 id:Bytes
 how:Int
 kids:Int
 seq:Int
 clock:Int
 know:List KRow
 gone:List At
 floor:List At
 store:List Item
 zone:List RS
 members:List Bytes
 certs:List At
 rows:List MRow
noncomputable abbrev nsP (s:NS):List PV:=[sv s.id,iv s.how,iv s.kids,iv s.seq,iv s.clock,lv s.know,lv s.gone,lv s.floor,lvP s.store,.im (stepsV (toSI s.zone)) false,lv s.members,lv s.certs,lv s.rows]
abbrev nsR (s:NS):List PV:=[sv s.id,iv s.how,iv s.kids,iv s.seq,iv s.clock,lv s.know,lv s.gone,lv s.floor,lvR s.store,.im (rsV s.zone) false,lv s.members,lv s.certs,lv s.rows]
structure NOK (s:NS):Prop where
 know:s.know.length≤most
 ext:∀ a∈s.know,a.extra.length≤most
 gone:s.gone.length≤most
 floor:s.floor.length≤most
 store:s.store.length≤most
 ism:∀ q∈s.store,q.sm
 zone:s.zone.length≤most
 zin:∀ q∈s.zone,q.sm
 members:s.members.length≤most
 certs:s.certs.length≤most
 rows:s.rows.length≤most
 rvec:∀ a∈s.rows,a.vec.length≤most
theorem ns_ext {s t:NS}:s=t↔s.id=t.id∧s.how=t.how∧s.kids=t.kids∧s.seq=t.seq∧s.clock=t.clock∧s.know=t.know∧s.gone=t.gone∧s.floor=t.floor∧s.store=t.store∧s.zone=t.zone∧s.members=t.members∧s.certs=t.certs∧s.rows=t.rows:=by
 constructor
 ·rintro rfl; simp
 ·cases s; cases t; simp
theorem own1_n {H:Heap} {is:List Nat} {v:PV}:(own1 H is v).h.n=H.n:=by
 unfold own1; split
 ·rfl
 ·exact freeze_n _ _
theorem own1_v {H:Heap} {is:List Nat} {v:PV}:(own1 H is v).v=v:=by unfold own1; split <;> rfl
theorem own1_rd {H:Heap} {is:List Nat} {v:PV}:(own1 H is v).rd=some is:=by unfold own1; split <;> rfl
theorem own1_wr {H:Heap} {is:List Nat} {v:PV} {x:Nat} (h:x∈(own1 H is v).wr):x∈is:=by
 unfold own1 at h; split at h
 ·cases h
 ·exact h
theorem own1_box {H:Heap} {is:List Nat} {v:PV} {p:Nat} {cs:List PV} (h:H.at_ p = .box cs):(own1 H is v).h.at_ p = .box cs:=by
 unfold own1; split
 ·exact h
 ·rw [freeze_at,h]; split <;> rfl
theorem from11_loop {v:List Item} {s:NS} {B1:List PV} (hv:s.store=v) {ks:List Fr'} {K:Ex→St→Prop} (hL:v.length≤most):∀ (rest:List Item) (i:Nat) (st:St) (a:PV),v.drop i=rest→i≤v.length→st.σ 1 = .ptr 0 0→st.σ 2 = .ptr 1 0→st.h.at_ 0 = .box (nsP s)→st.h.at_ 1 = .box B1→1 < st.h.n→st.σ 4=iv i→st.σ 3=a→Lst st.h 8 a (EnP (v.take i)) →
  (∀ st' a,st'.σ 1 = .ptr 0 0→st'.σ 2 = .ptr 1 0→st'.h.at_ 0 = .box (nsP s)→st'.h.at_ 1 = .box B1→1 < st'.h.n→st'.σ 3=a→Lst st'.h 8 a (EnP v)→VN (env P) 16 st' ks K)→V (env P) 16 (.loop L16_0) st (.blk 0::ks) K
 | [],i,st,a,hr,hile,h1,h2,hb,hb1,hn1,hi,ha,hl,hend=>by
   obtain ⟨hii,hlt,hd⟩:=drop_nil hr hile
   rw [hd] at hl
   have hn0:0 < st.h.n:=by omega
   rw [V_loop]
   simp [L16_0,h1,hb,hn0,hi,hlt,hv]
   exact hend _ a (by simp [h1]) (by simp [h2]) (by simp [hb,hn0]) (by simp [hb1,hn1]) (by simp; omega) (by simp [ha]) (by simpa using hl.grow)
 | q::rest,i,st,a,hr,hile,h1,h2,hb,hb1,hn1,hi,ha,hl,hend=>by
   obtain ⟨hq,hlt,hr',ht⟩:=drop_cons hr
   have hc:=EnP_at hq
   have hw:=wrapS (i:=i) (by unfold most at hL; omega)
   have hn0:0 < st.h.n:=by omega
   rw [V_loop]
   simp [L16_0,h1,hb,hn0,hi,hlt,hc,hw,ha,hv,chunks,elems,allLen]
   refine VP_app (ys:=EnP (v.take i)) (by repeat (first | exact hl | refine Lst.grow ?_ | refine Lst.putN ?_ (by simp))) (by simp) (by simp) rfl (by simp; omega) fun v' H' wr rd e2 e3 e4=>?_
   have e5:=e4 0
   have e6:=e4 1
   simp [hb,hb1,hn0,hn1] at e5 e6
   simp [hi,hw,e3]
   refine from11_loop hv hL rest (i+1) _ v' hr' (by omega) (by simp [h1]) (by simp [h2]) (by simp [e5,e3]) (by simp [e6,e3]; omega) (by simp [e3]; omega) (by simp) (by simp) ?_ hend
   rw [ht,EnP_append]
   exact e2.grow
set_option maxHeartbeats 1000000 in
theorem from11_ans (T:TI P) {s:NS} (F:NOK s):ans (env P) 16 [.agg (nsP s)]=some (.agg (nsR s)):=by
 have k1:=from4_ans (P:=P) (v:=s.know) F.ext F.know
 have k2:=from3_ans (P:=P) (v:=s.gone) F.gone
 have k3:=from3_ans (P:=P) (v:=s.floor) F.floor
 have k4:=from8_ans (P:=P) (v:=s.store) T F.ism F.store
 have k5:=from5_ans (P:=P) T (l:=s.zone) F.zone F.zin
 have k6:=from1_ans (P:=P) (v:=s.members) F.members
 have k7:=from3_ans (P:=P) (v:=s.certs) F.certs
 have k8:=from10_ans (P:=P) (v:=s.rows) F.rvec F.rows
 refine ans_V rfl rfl ?_
 simp [c16]
 refine from11_loop rfl F.store s.store 0 _ _ rfl (by omega) (by simp) (by simp) (by simp) (by simp; rfl) (by simp) (by simp) rfl (by simp; exact Lst.nil) ?_
 intro st' a h1 h2 hb hb1 hn1 h3 hl
 have hn0:0 < st'.h.n:=by omega
 have hpp:=plainss_EnP s.store
 have fz:∀ (H:Heap) (is:List Nat) (v:PV) (p:Nat) (cs:List PV),H.at_ p = .box cs→(own1 H is v).h.at_ p = .box cs:=fun H is v p cs h=>own1_box h
 rcases hl with ⟨rfl,_⟩ | ⟨r,xs,rfl,hbr,hle,he,hr,_⟩
 ·simp [h1,h2,h3,hb,hb1,hn0,hn1,k1,k2,k3,k4,k5,k6,k7,k8]
  all_goals done
 ·simp at he hle
  have o0:(own1 (st'.h.grow 0) [r] (PV.im (EnR s.store) false)).h.at_ 0 = .box (nsP s):=own1_box (by simp [hb,hn0])
  have o1:(own1 (st'.h.grow 0) [r] (PV.im (EnR s.store) false)).h.at_ 1=_:=own1_box (by simp [hn1]; exact hb1)
  have on:(own1 (st'.h.grow 0) [r] (PV.im (EnR s.store) false)).h.n=st'.h.n:=own1_n
  have od:(own1 (st'.h.grow 0) [r] (PV.im (EnR s.store) false)).rd=_:=own1_rd
  have ov:(own1 (st'.h.grow 0) [r] (PV.im (EnR s.store) false)).v=_:=own1_v
  simp [h1,h2,h3,hb,hb1,hn0,hn1,hbr,hle,he,hr,hpp,o0,o1,on,ov,od,k1,k2,k3,k4,k5,k6,k7,k8]
  have hr0:∀ x,x∈(own1 (st'.h.grow 0) [r] (PV.im (EnR s.store) false)).wr→¬ x=0:=fun x hx q=>by
   have:=own1_wr hx
   simp at this
   rw [q] at this
   subst this
   simp [hbr] at hb
  exact hr0
theorem rsame11_ans (T:TI P) {s t:NS} (F:NOK s):∃ b:Bool,(b=true↔s=t)∧ans (env P) 15 [.agg (nsR s),.agg (nsR t)]=some (bv b):=by
 have k1:=rsame4_ans (P:=P) (l:=s.know) (m:=t.know) F.ext F.know
 have k2:=rsame3_ans (P:=P) (l:=s.gone) (m:=t.gone) T F.gone
 have k3:=rsame3_ans (P:=P) (l:=s.floor) (m:=t.floor) T F.floor
 have k4:=rsame8_ans (P:=P) (l:=s.store) (m:=t.store) T F.store
 have k5:=refSame_ans (P:=P) T.toTyped3.toTyped2 (l:=s.zone) (m:=t.zone) F.zone
 have k6:=rsame1_ans (P:=P) (l:=s.members) (m:=t.members) F.members
 have k7:=rsame3_ans (P:=P) (l:=s.certs) (m:=t.certs) T F.certs
 have k8:=rsame10_ans (P:=P) (l:=s.rows) (m:=t.rows) T F.rvec F.rows
 have hs:=fun t cx cy a b=>evBin_seql (P:=P) (t:=t) (cx:=cx) (cy:=cy) a b
 have hn:=fun t cx cy a b=>evBin_sneq (P:=P) (t:=t) (cx:=cx) (cy:=cy) a b
 classical
 refine ⟨decide (s=t),by simp,?_⟩
 refine ans_V rfl rfl ?_
 simp [c15,k1,k2,k3,k4,k5,k6,k7,k8,hs,hn]
 repeat' (first
  | (refine VG_sp (fun h=>?_) (fun h=>?_) <;> simp [h,k1,k2,k3,k4,k5,k6,k7,k8,hs,hn])
  | (refine VB_sp (fun h=>?_) (fun h=>?_) <;> simp [h,k1,k2,k3,k4,k5,k6,k7,k8,hs,hn]))
 all_goals simp_all [ns_ext]
structure NOp where
 kind:Int
 who:Int
 other:Int
 key:Int
 x:Int
 y:Int
 text:Bytes
 zone:List RS
abbrev opC (o:NOp):List PV:=[iv o.kind,iv o.who,iv o.other,iv o.key,iv o.x,iv o.y,sv o.text,.im (rsV o.zone) false]
def zFew (q:RS):Bool:=decide (q.x≤1099511627776) && decide (-1099511627776≤q.x) && decide (q.y≤1099511627776) && decide (-1099511627776≤q.y) && decide (q.s≤1099511627776) && decide (-1099511627776≤q.s)
def fewO1 (o:NOp):Bool:=decide (o.text.length≤100) && decide (o.zone.length≤40) && decide (o.x≤1099511627776) && decide (-1099511627776≤o.x) && decide (o.y≤1099511627776) && decide (-1099511627776≤o.y)
def fewO (o:NOp):Bool:=fewO1 o && o.zone.all zFew
theorem few11_loop {o:NOp} {v:List RS} (hv:o.zone=v) {ks:List Fr'} {K:Ex→St→Prop} (hL:v.length≤most):∀ (rest:List RS) (i:Nat) (st:St),v.drop i=rest→i≤v.length→(∃ p,st.σ 1 = .ptr p 0∧st.h.at_ p = .box (opC o)∧p < st.h.n)→st.σ 3=iv i →
  (∀ st',rest.all zFew=false→st'.σ 2=bv false→K .ret st')→(∀ st',(∃ p,st'.σ 1 = .ptr p 0∧st'.h.at_ p = .box (opC o)∧p < st'.h.n)→rest.all zFew=true→VN (env P) 12 st' ks K)→V (env P) 12 (.loop L12_0) st (.blk 0::ks) K
 | [],i,st,hr,hile,⟨p0,hb,hp0,hpn⟩,hi,hret,hend=>by
   obtain ⟨hii,hlt,hd⟩:=drop_nil hr hile
   rw [V_loop]
   simp [L12_0,hb,hp0,hpn,hi,hlt,hv]
   exact hend _ ⟨p0,by simp [hb],by simp [hp0,hpn],by simp; omega⟩ rfl
 | q::rest,i,st,hr,hile,⟨p0,hb,hp0,hpn⟩,hi,hret,hend=>by
   obtain ⟨hq,hlt,hr',_⟩:=drop_cons hr
   have hm:=List.mem_of_getElem? hq
   have hc:=rsV_at hq
   have hw:=wrapS (i:=i) (by unfold most at hL; omega)
   have hne:¬ p0=st.h.n:=by omega
   have hpn1:p0 < st.h.n+1:=by omega
   rw [V_loop]
   simp [L12_0,hb,hp0,hpn,hne,hpn1,hi,hlt,hc,hw,hv,RS.cells]
   repeat' (first
    | (refine VG_sp (fun h=>?_) (fun h=>?_) <;> simp [h,hb,hp0,hpn,hne,hpn1,hi,hlt,hc,hw,hv,RS.cells])
    | (refine VB_sp (fun h=>?_) (fun h=>?_) <;> simp [h,hb,hp0,hpn,hne,hpn1,hi,hlt,hc,hw,hv,RS.cells]))
   all_goals first
    | exact hret _ (by simp_all [zFew] <;> (intros; first | omega | (exfalso; omega) | (simp_all; done))) (by simp)
    | exact few11_loop hv hL rest (i+1) _ hr' (by omega) ⟨p0,by simp [hb],by simp [hp0,hpn,hne,hpn1],by simp; omega⟩ (by simp [hw]) (fun st' x y=>hret st' (by simp_all [zFew]) y) (fun st' x0 x=>hend st' x0 (by simp_all [zFew] <;> (first | omega | (intros; omega))))
theorem few11_ans {o:NOp}:ans (env P) 12 [.agg (opC o)]=some (bv (fewO o)):=by
 refine ans_V rfl rfl ?_
 simp [c12,sv_size]
 repeat' (first
  | (refine VG_sp (fun h2=>?_) (fun h2=>?_) <;> simp [h2,sv_size])
  | (refine VB_sp (fun h2=>?_) (fun h2=>?_) <;> simp [h2,sv_size]))
 all_goals first
  | (simp_all [fewO,fewO1] <;> intros <;> first | omega | (exfalso; omega) | (simp_all; done))
  | skip
 have h70:fewO1 o=true:=by simp_all [fewO1]; omega
 have hl:=h70
 simp only [fewO1,Bool.and_eq_true,decide_eq_true_eq] at hl
 have hM:most=68719476736:=rfl
 refine few11_loop (o:=o) rfl (by omega) o.zone 0 _ rfl (by omega) ⟨0,by simp,by simp,by simp⟩ (by simp) ?_ ?_
 ·intro st' ha h2; simp [h2,fewO,ha]
 ·rintro st4 _ ha4
  simp [fewO,h70,ha4]
end Go.Evl.Zone

namespace Go.Evl.Zone
open Go Go.Evl Go.Evl.Fl
attribute [local simp] VB_ite VG_ite
variable {P:Program}
end Go.Evl.Zone

namespace Go.Evl.Zone
open Go Go.Evl Go.Evl.Fl
variable {P:Program}
theorem lt53 {n:Int} (h:-1099511627776≤n∧n≤1099511627776):n.natAbs < 2 ^ 53:=by
 have h53:(2:Nat) ^ 53=9007199254740992:=by decide
 omega
end Go.Evl.Zone

namespace Go.Evl.Zone
open Go Go.Evl Go.Evl.Fl
variable {P:Program}
theorem cloneF_ok {k:Nat} {H:Heap} {xs:List (List PV)} {fl:Bool} (h1:allLen k xs=true) (h2:xs.length≤most) (h3:plainss xs=some xs):pCloneF k [.im xs fl] H=some ⟨.im xs false,H,[],some []⟩:=by
 simp [pCloneF,h1,h2,h3]
abbrev id01:Bytes:=[48,49]
def kn:Nat→List KRow
 | 0=>[]
 | n+1=>[⟨id01,((n+1:Nat):Int),[]⟩]
def vc:Nat→List At
 | 0=>[]
 | n+1=>[⟨id01,((n+1:Nat):Int)⟩]
def rw_:Nat→List MRow
 | 0=>[]
 | n+1=>[⟨id01,[⟨id01,((n+1:Nat):Int)⟩]⟩]
def ns (s k r:Nat) (l:List Item) (Z:List RS):NS:=⟨id01,0,0,(s:Int),(s:Int),kn k,[],[],l,Z,[[48],[48,49]],[],rw_ r⟩
def all1:List RS:=[⟨1,0,0,0⟩]
def rootN:NS:=⟨[48],0,0,0,0,[],[],[],[],all1,[[48]],[],[]⟩
section
variable {s k r n:Nat} {l:List Item} {Z:List RS}
theorem plainss_steps (l:List SI):plainss (stepsV l)=some (stepsV l):=plainss_ok fun y hy=>by
 simp only [stepsV,List.mem_map] at hy
 obtain ⟨a,_,rfl⟩:=hy
 rfl
end
end Go.Evl.Zone

namespace Go.Evl.Zone
open Go Go.Evl
variable {P:Program}
theorem folded_loop {l:List Int} (hL:l.length≤most) (ht:∀ n∈l,n≤1048576) {ks:List Fr'} {K:Ex→St→Prop}:∀ (rest:List Int) (i:Nat) (u:Int) (st:St),l.drop i=rest→i≤l.length→0≤u→u≤1048576→st.σ 0=iv u→st.σ 1=lv l→st.σ 5=iv i→st.σ 4 = .ptr 0 0→st.h.at_ 0 = .box [iv 0,.im [] true]→0 < st.h.n →
  (∀ st' (j:Nat),st'.σ 0=iv (foldU u rest).u→st'.σ 1=lv l→st'.σ 5=iv j→st'.σ 4 = .ptr 0 0→st'.h.at_ 0 = .box [iv 0,.im [] true]→0 < st'.h.n→l.drop j=(foldU u rest).x→j≤l.length→VN (env P) 210 st' ks K)→V (env P) 210 (.loop L210_0) st (.blk 0::ks) K
 | [],i,u,st,hr,hile,h0u,h1u,h0,h1,h5,h4,hb,hn,hend=>by
   obtain ⟨hii,hlt,hd⟩:=drop_nil hr hile
   rw [V_loop]
   simp [L210_0,h0,h1,h5,hlt]
   exact hend _ i (by simp [h0,foldU]) (by simp [h1]) (by simp [h5]) (by simp [h4]) (by simp [hb,hn]) (by simpa using hn) (by simpa [foldU] using hr) hile
 | q::rest,i,u,st,hr,hile,h0u,h1u,h0,h1,h5,h4,hb,hn,hend=>by
   obtain ⟨hq,hlt,hr',_⟩:=drop_cons hr
   have hc:=En_at hq
   have hqt:=ht q (List.mem_of_getElem? hq)
   have hw:=wrapS (i:=i) (by unfold most at hL; omega)
   have hwu:IntKind.i64.wrap (u+1)=u+1:=wrap64_id (by omega)
   have hmx:∀ (t:TypeId) (ts:Array TypeId),evFun P .max ts t [.int .i64 u,.int .i64 q]=some (iv (max u q)):=fun t ts=>maxI
   rw [V_loop]
   by_cases e:q≤u+1
   ·simp [L210_0,h0,h1,h5,hlt,hc,hw,hwu,hmx,e]
    refine folded_loop hL ht rest (i+1) (max u q) _ hr' (by omega) (by omega) (by omega) (by simp) (by simp [h1]) (by simp) (by simp [h4]) (by simp [hb,hn]) (by simpa using hn) (fun st' j a b c d f g h k=>hend st' j (by rw [a]; simp [foldU,e]) b c d f g (by rw [h]; simp [foldU,e]) k)
   ·simp [L210_0,h0,h1,h5,hlt,hc,hw,hwu,hmx,e]
    exact hend _ i (by simp [h0,foldU,e]) (by simp [h1]) (by simp [h5]) (by simp [h4]) (by simp [hb,hn]) (by simpa using hn) (by simp [foldU,e,hr]) hile
theorem folded_ans {l:List Int} {u:Int} (hL:l.length≤most) (ht:∀ n∈l,n≤1048576) (h0:0≤u) (h1:u≤1048576):ans (env P) 210 [iv u,lv l]=some (.agg (spV (foldU u l))):=by
 have c1:=fun {dst:Option Nat} {rest:List CI} {i slot slot':Nat} {log:Log} {d:Dr} {K:Ex→St→Prop} {st:St} {ks:List Fr'} {xs:List O}=>VA_prim (E:=env P) (f:=210) (g:=181) (p:=pCloneF 1) (dst:=dst) (rest:=rest) (i:=i) (slot:=slot) (slot':=slot') (log:=log) (d:=d) (K:=K) (st:=st) (ks:=ks) (xs:=xs) rfl
 refine ans_V rfl rfl ?_
 simp [c210]
 refine folded_loop hL ht l 0 u _ rfl (by omega) h0 h1 (by simp) (by simp) (by simp) (by simp) (by simp) (by simp) ?_
 intro st j a0 a1 a5 a4 ab an hx hj
 have hlen:(l.drop j).length=l.length - j:=List.length_drop
 have z1:∀ H,pCloneF 1 [.im (En (foldU u l).x) false] H=some ⟨.im (En (foldU u l).x) false,H,[],some []⟩:=fun H=>cloneF_ok (allLen_I _) (by rw [← hx]; simp; omega) (plainss_En _)
 have hdr:List.drop j (En l)=En (foldU u l).x:=by rw [En_drop,hx]
 have htk:List.take l.length (En l)=En l:=by have:=List.take_length (l:=En l); simpa using this
 simp [a0,a1,a5,a4,sliceP,hj,htk,hdr,c1,z1,ab,an]
theorem spanUnion_ans {a b:Sp} (ha:a.wk) (hb:b.wk) (hL:a.x.length+b.x.length≤most):ans (env P) 169 [.agg (spV a),.agg (spV b)]=some (.agg (spV (uniS a b))):=by
 have c1:=fun {dst:Option Nat} {rest:List CI} {i slot slot':Nat} {log:Log} {d:Dr} {K:Ex→St→Prop} {st:St} {ks:List Fr'} {xs:List O}=>VA_prim (E:=env P) (f:=169) (g:=209) (p:=pSortI) (dst:=dst) (rest:=rest) (i:=i) (slot:=slot) (slot':=slot') (log:=log) (d:=d) (K:=K) (st:=st) (ks:=ks) (xs:=xs) rfl
 have hu0:=ha.u0
 have hu1:=ha.u1
 have hv0:=hb.u0
 have hv1:=hb.u1
 have hmem:∀ n∈dedZ (sortZ (a.x++b.x)),n≤1048576:=fun n hn=>by
  rw [mem_dedZ,(sortZ_perm _).mem_iff,List.mem_append] at hn
  exact hn.elim (ha.x1 n) (hb.x1 n)
 have hdl:∀ l:List Int,(dedZ l).length≤l.length:=fun l=>by
  induction l using dedZ.induct with
  | case1=>simp [dedZ]
  | case2 a=>simp [dedZ]
  | case3 a l ih=>unfold dedZ; rw [if_pos rfl]; simp at ih ⊢; omega
  | case4 a b l h ih=>unfold dedZ; rw [if_neg h]; simp at ih ⊢; omega
 have hl2:=hdl (sortZ (a.x++b.x))
 rw [sortZ_len,List.length_append] at hl2
 have kf:=folded_ans (P:=P) (l:=dedZ (sortZ (a.x++b.x))) (u:=max a.u b.u) (by omega) hmem (by omega) (by omega)
 have hmx:∀ (t:TypeId) (ts:Array TypeId),evFun P .max ts t [.int .i64 a.u,.int .i64 b.u]=some (iv (max a.u b.u)):=fun t ts=>maxI
 refine ans_V rfl rfl ?_
 simp [c169]
 refine VA_keep (g:=208) (caps:=[]) rfl rfl ?_
 simp [chunks]
 refine concatI_KC (a:=a.x) (b:=b.x) (f1:=false) (f2:=false) (f3:=true) hL fun x H1 wl1 e1 e2 e3 e4=>?_
 have g0:=e3 0
 have g1:=e3 1
 have g2:=e3 2
 simp at g0 g1 g2 e2
 obtain ⟨H2,wr2,s1,s2,s3,s4,s5⟩:=sortI_FN (e1.grow (m:=0)) (by simpa using hL)
 have s2:FN 3 H2 1 x (En (sortZ (a.x++b.x))):=s2
 have s3:H2.n=H1.n+1:=s3
 have s4:∀ i,i < H1.n→i < 3→H2.at_ i=(H1.grow 0).at_ i:=s4
 have s5:∀ i,i∈wr2→3≤i:=s5
 have q0:H2.at_ 0 = .box (spV a):=(s4 0 (by omega) (by omega)).trans (by simp [g0]; omega)
 have q1:H2.at_ 1 = .box (spV b):=(s4 1 (by omega) (by omega)).trans (by simp [g1]; omega)
 have q2:H2.at_ 2 = .box [iv 0,.im [] true]:=(s4 2 (by omega) (by omega)).trans (by simp [g2]; omega)
 have m0:0 < H2.n:=by omega
 have m1:1 < H2.n:=by omega
 have m2:2 < H2.n:=by omega
 simp [c1,s1,q0,q1,m0,m1,hmx]
 refine VA_inl (g:=211) (caps:=[]) rfl rfl ?_
 simp
 refine compactI_IC (N:=3) (l:=sortZ (a.x++b.x)) (by repeat (first | exact s2 | refine FN.grow ?_)) (by rw [sortZ_len]; simpa using hL) fun H3 wl3 t1 t2 t3=>?_
 have p2:H3.at_ 2 = .box [iv 0,.im [] true]:=(t2 2 (by omega) (by simpa using m2)).trans (by simp [q2,m2])
 have n3:2 < H3.n:=by rw [t1]; simpa using m2
 simp [kf,p2,n3]
 exact ⟨⟨Gw_of (by simpa using t1),fun i hi=>by have:=t3 i hi; omega,fun i hi=>by have:=t3 i hi; omega⟩,rfl,rfl⟩
end Go.Evl.Zone

namespace Go.Evl.Zone
open Go Go.Evl
variable {P:Program}
theorem cmpNaNI_ans {a:Int}:ans (env P) 245 [iv a]=some (bv false):=by
 refine ans_V rfl rfl ?_
 simp [c245]
theorem slNaNI_ans {a:Int}:ans (env P) 221 [iv a]=some (bv false):=by
 refine ans_V rfl rfl ?_
 simp [c221]
theorem lessI_ans {a b:Int}:ans (env P) 220 [iv a,iv b]=some (bv (decide (a < b))):=by
 have k1:=cmpNaNI_ans (P:=P) (a:=a)
 refine ans_V rfl rfl ?_
 simp [c220,k1]
theorem bsI_loop (T:TB P) {l:List Int} {n:Int} (hm:Mono (fun a=>cmpI a n) l) (hL:l.length≤most) {ks:List Fr'} {K:Ex→St→Prop} :
  ∀ (d i j:Nat) (st:St),j - i=d→i≤lbN (fun a=>cmpI a n) l→lbN (fun a=>cmpI a n) l≤j→j≤l.length→st.σ 0=lv l→st.σ 1=iv n→st.σ 7=iv i→st.σ 8=iv j→st.σ 6=iv l.length →
  (∀ st',st'.σ 7=iv (lbN (fun a=>cmpI a n) l)→st'.σ 0=lv l→st'.σ 1=iv n→st'.σ 6=iv l.length→VN (env P) 189 st' ks K)→V (env P) 189 (.loop L189_0) st (.blk 0::ks) K:=by
 intro d
 induction d using Nat.strongRecOn with
 | ind d ih =>
   intro i j st hd hi hj hjl h0 h1 h7 h8 h6 hend
   have hL2:l.length≤68719476736:=hL
   rw [V_loop]
   by_cases hij:i < j
   ·obtain ⟨m,hm0⟩:∃ m,m=(i+j) / 2:=⟨_,rfl⟩
    have hmj:m < j:=by omega
    have him:i≤m:=by omega
    have hml:m < l.length:=by omega
    obtain ⟨a,ha⟩:∃ a,l[m]?=some a:=⟨_,List.getElem?_eq_getElem hml⟩
    have hij':(i:Int) < (j:Int):=by omega
    have w1:IntKind.i64.wrap ((i:Int)+(j:Int))=(i:Int)+(j:Int):=wrap64_id (by omega)
    have q1:=cvU T (n:=(i:Int)+(j:Int)) (by omega) (by omega)
    have q2:=fun t cx cy=>@shr1 P ((i:Int)+(j:Int)) (by omega) t cx cy
    have e2:((i:Int)+(j:Int)) / 2=(m:Int):=by omega
    have q3:=cvI T (n:=(m:Int)) (by omega) (by omega)
    have hc:=En_at ha
    have kl:=lessI_ans (P:=P) (a:=a) (b:=n)
    by_cases hcc:a < n
    ·have hcm:=lbN_gt l m a hm ha (cmpI_lt.2 hcc)
     have w2:IntKind.i64.wrap ((m:Int)+1)=(m:Int)+1:=wrap64_id (by omega)
     simp only [hcc,decide_true] at kl
     simp [L189_0,h0,h1,h7,h8,hij',w1,q1,q2,e2,q3,hml,hc,kl,w2]
     exact ih (j - (m+1)) (by omega) (m+1) j _ rfl (by omega) hj hjl (by simp [h0]) (by simp [h1]) (by simp) (by simp [h8]) (by simp [h6]) hend
    ·have hcm:=lbN_ge (c:=fun a=>cmpI a n) l m a ha (fun h=>hcc (cmpI_lt.1 h))
     simp only [hcc,decide_false] at kl
     simp [L189_0,h0,h1,h7,h8,hij',w1,q1,q2,e2,q3,hml,hc,kl]
     exact ih (m - i) (by omega) i m _ rfl hi hcm (by omega) (by simp [h0]) (by simp [h1]) (by simp [h7]) (by simp) (by simp [h6]) hend
   ·have hij':¬ (i:Int) < (j:Int):=by omega
    obtain rfl:i=lbN (fun a=>cmpI a n) l:=by omega
    simp [L189_0,h7,h8,hij']
    exact hend _ (by simp [h7]) (by simp [h0]) (by simp [h1]) (by simp [h6])
theorem cmpI_zero {a b:Int}:cmpI a b=0↔a=b:=by
 unfold cmpI
 split
 ·simp; omega
 ·split
  ·simp; omega
  ·simp; omega
theorem fnd_mem {l:List Int} {n:Int} (hs:l.Pairwise (· < ·)):fnd (fun a=>cmpI a n) l=decide (n∈l):=by
 have h:=get_fnd cmpI_ok n (srtZ.2 hs)
 cases hg:getA (fun n:Int=>n) l n with
 | none =>
   rw [hg] at h
   have hn:=get_none hg
   rw [show fnd (fun a=>cmpI a n) l=false from h]
   have:n∉l:=fun hm=>hn n hm rfl
   simp [this]
 | some a =>
   rw [hg] at h
   obtain ⟨h1,h2⟩:=get_mem hg
   subst h2
   rw [show fnd (fun b=>cmpI b a) l=true from h.2]
   simp [h1]
theorem bsI_ans (T:TB P) {l:List Int} {n:Int} (hs:l.Pairwise (· < ·)) (hL:l.length≤most):ans (env P) 189 [lv l,iv n]=some (.tup [iv (lbN (fun a=>cmpI a n) l),bv (decide (n∈l))]):=by
 rw [← fnd_mem hs]
 have hm:Mono (fun a=>cmpI a n) l:=Srt.mono (key:=fun n:Int=>n) cmpI_ok n (srtZ.2 hs)
 have hlb:=lbN_le (c:=fun a=>cmpI a n) l
 refine ans_V rfl rfl ?_
 simp [c189]
 refine bsI_loop T hm hL l.length 0 l.length _ rfl (by omega) hlb (Nat.le_refl _) (by simp) (by simp) (by simp) (by simp) (by simp) fun st' h7 h0 h1 h6=>?_
 generalize hb:lbN (fun a=>cmpI a n) l=b at *
 by_cases hl:b < l.length
 ·obtain ⟨a,ha⟩:∃ a,l[b]?=some a:=⟨_,List.getElem?_eq_getElem hl⟩
  have hc:=En_at ha
  have hl':(b:Int) < (l.length:Int):=by omega
  have kn:=slNaNI_ans (P:=P) (a:=a)
  have hf:fnd (fun a=>cmpI a n) l=decide (a=n):=by
   unfold fnd
   rw [hb,ha]
   simp [cmpI_zero]
  by_cases e:a=n
  ·simp [h7,h0,h1,h6,hl',hl,hc,hf,e,resV,resP]
  ·simp [h7,h0,h1,h6,hl',hl,hc,hf,e,kn,resV,resP]
 ·have hl':¬ (b:Int) < (l.length:Int):=by omega
  have hf:fnd (fun a=>cmpI a n) l=false:=by
   unfold fnd
   rw [hb,List.getElem?_eq_none (by omega)]
  simp [h7,h0,h1,h6,hl',hl,hf,resV,resP]
theorem hasS_ans (T:TB P) {s:Sp} {n:Int} (hs:s.ok) (hL:s.x.length≤most):ans (env P) 140 [.agg (spV s),iv n]=some (bv (decide (s.Has n))):=by
 have kb:=bsI_ans (P:=P) (n:=n) T hs.srt hL
 refine ans_V rfl rfl ?_
 by_cases h1:n≤s.u
 ·simp [c140,h1,Sp.Has]
 ·simp [c140,h1,kb,Sp.Has]
  intro h
  exact hs.x0 n h
theorem spanFirst_ans {n:Int}:ans (env P) 107 [iv n]=some (.agg (spV ⟨max 0 (min n 1048576),[]⟩)):=by
 have h1:∀ (t:TypeId) (ts:Array TypeId),evFun P .min ts t [.int .i64 n,.int .i64 1048576]=some (iv (min n 1048576)):=fun t ts=>minI
 have h2:∀ (t:TypeId) (ts:Array TypeId),evFun P .max ts t [.int .i64 0,.int .i64 (min n 1048576)]=some (iv (max 0 (min n 1048576))):=fun t ts=>maxI
 refine ans_V rfl rfl ?_
 simp [c107,h1,h2]
theorem spanAdd_ans {s:Sp} {n:Int} (hs:s.wk) (h1:1≤n) (h2:n≤1048576) (hL:s.x.length+1≤most):ans (env P) 195 [.agg (spV s),iv n]=some (.agg (spV (uniS s ⟨0,[n]⟩))):=by
 have k:=spanUnion_ans (P:=P) hs (one_wk h1 h2) (by simpa using hL)
 refine ans_V rfl rfl ?_
 simp [c195,show ¬ n < 1 by omega,show ¬ 1048576 < n by omega,chunks]
 simp only [spV,En_one,lv,Enc_Int] at k
 simp [k]
end Go.Evl.Zone

namespace Go.Evl.Zone
open Go Go.Evl
variable {P:Program}
theorem kcopied_loop {v:List KRow} {r N:Nat} (hL:v.length≤most) (hE:∀ q∈v,q.extra.length≤most) {ks:List Fr'} {K:Ex→St→Prop}:∀ (rest:List KRow) (i:Nat) (st:St),v.drop i=rest→i≤v.length→st.σ 3 = .sl r 3 v.length 0 v.length→st.σ 8=iv v.length→st.σ 9=iv i→st.h.at_ r = .row 3 (En v) true→r < st.h.n→N≤r→(∀ j∈st.wl,N≤j) →
  (∀ st',st'.σ 3 = .sl r 3 v.length 0 v.length→st'.h.at_ r = .row 3 (En v) true→r < st'.h.n→(∀ j,j < N→st'.h.at_ j=st.h.at_ j)→(∀ j∈st'.wl,N≤j)→VN (env P) 156 st' ks K)→V (env P) 156 (.loop L156_0) st (.blk 0::ks) K
 | [],i,st,hr,hile,h3,h8,h9,hb,hrn,hN,hw,hend=>by
   obtain ⟨hii,hlt,hd⟩:=drop_nil hr hile
   have c1:¬ (i:Int) < (v.length:Int):=by omega
   rw [V_loop]
   simp [L156_0,h8,h9,c1,hlt]
   exact hend _ (by simp [h3]) (by simp [hb,hrn]) (by simpa using hrn) (fun j hj=>by simp [show j < st.h.n by omega]) hw
 | q::rest,i,st,hr,hile,h3,h8,h9,hb,hrn,hN,hw,hend=>by
   obtain ⟨hq,hlt,hr',_⟩:=drop_cons hr
   have c2:=fun {dst:Option Nat} {rest:List CI} {i slot slot':Nat} {log:Log} {d:Dr} {K:Ex→St→Prop} {st:St} {ks:List Fr'} {xs:List O}=>VA_prim (E:=env P) (f:=156) (g:=181) (p:=pCloneF 1) (dst:=dst) (rest:=rest) (i:=i) (slot:=slot) (slot':=slot') (log:=log) (d:=d) (K:=K) (st:=st) (ks:=ks) (xs:=xs) rfl
   have z2:∀ H,pCloneF 1 [.im (En q.extra) false] H=some ⟨.im (En q.extra) false,H,[],some []⟩:=fun H=>cloneF_ok (allLen_I _) (by simpa using hE q (List.mem_of_getElem? hq)) (plainss_En _)
   have hw1:=wrapS (i:=i) (by unfold most at hL; omega)
   have hx:(En v)[i]?=some (Enc.c q):=En_at? hq
   have l1:loadR (.row 3 (En v) true) r 3 v.length i 2 1=some ([lv q.extra],[r]):=by
    rw [loadR_row ⟨rfl,by simp⟩,hx]
    rfl
   have hset:(En v).set i (Enc.c q)=En v:=by
    obtain ⟨h1,h2⟩:=List.getElem?_eq_some_iff.1 hx
    rw [← h2]
    exact List.set_getElem_self _
   have s1:∀ H:Heap,storeR H (.row 3 (En v) true) r 3 v.length i 2 [lv q.extra]=some (H.put r (.row 3 (En v) true),r):=fun H=>by
    unfold storeR
    simp only [toRow,ob_some]
    rw [if_pos ⟨trivial,trivial,by simp⟩,hx,ob_some,if_pos (by simp)]
    have:setL (Enc.c q) 2 [lv q.extra]=Enc.c q:=rfl
    rw [this,hset]
   rw [V_loop]
   simp [L156_0,h3,h8,h9,hlt,hb,hrn,l1,c2,z2,s1,hw1]
   refine kcopied_loop hL hE rest (i+1) _ hr' (by omega) (by simp [h3]) (by simp [h8]) (by simp) (by simp [hrn]) (by simpa using hrn) hN ?_ (fun st' a b c d e=>hend st' a b c (fun j hj=>by rw [d j hj]; simp [show j < st.h.n by omega,show ¬ j=r by omega]) e)
   intro j hj
   simp at hj
   rcases hj with rfl | hj
   ·exact hN
   ·exact hw j hj
theorem kcopied_KC {H:Heap} {v:List KRow} {K:PV→Heap→List Nat→Prop} (hL:v.length≤most) (hE:∀ q∈v,q.extra.length≤most) (hK:∀ x H' wl,FN H.n H' 3 x (En v)→H.n≤H'.n→(∀ j,j < H.n→H'.at_ j=H.at_ j)→(∀ j∈wl,H.n≤j)→K x H' wl):KC (env P) 156 [lv v] H K:=by
 have c1:=fun {dst:Option Nat} {rest:List CI} {i slot slot':Nat} {log:Log} {d:Dr} {K:Ex→St→Prop} {st:St} {ks:List Fr'} {xs:List O}=>VA_prim (E:=env P) (f:=156) (g:=201) (p:=pClone 3) (dst:=dst) (rest:=rest) (i:=i) (slot:=slot) (slot':=slot') (log:=log) (d:=d) (K:=K) (st:=st) (ks:=ks) (xs:=xs) rfl
 refine KC_of (cf:=c156) (fun _=>rfl) rfl ?_
 by_cases h0:v=[]
 ·subst h0
  simp [c156,c1,pClone,isStr,elems,allLen]
  rw [V_loop]
  simp [L156_0,resV,resP]
  exact hK _ _ _ (.im rfl rfl) (by simp) (fun j hj=>by simp [hj]) (by simp)
 ·have hl:¬ v.length=0:=fun e=>h0 (List.length_eq_zero_iff.1 e)
  simp [c156,c1,pClone,isStr,elems,h0,hL]
  refine kcopied_loop (r:=H.n) (N:=H.n) hL hE v 0 _ rfl (by omega) (by simp) (by simp) (by simp) (by simp) (by simp) (Nat.le_refl _) (by simp) ?_
  intro st' a3 ab an af aw
  simp [a3,resV,resP]
  have E:=keepH (h:=st'.h) (H:=H) (n:=st'.h.n) rfl
  refine hK _ _ _ (fn_same (.row H.n (by simp) ab (Nat.le_refl _) an (allLen_En (α:=KRow) rfl _)) E) (Nat.le_trans (Nat.le_of_lt an) (Nat.le_of_eq E.1.symm)) (fun j hj=>(E.2 j (by omega)).trans ((af j hj).trans (by simp [hj,show j < H.n+1 by omega,show ¬ j=H.n by omega]))) aw
end Go.Evl.Zone

namespace Go.Evl.Zone
open Go Go.Evl
variable {P:Program}
def KRow.sp (r:KRow):Sp:=⟨r.upto,r.extra⟩
def rowS (id:Bytes) (s:Sp):KRow:=⟨id,s.u,s.x⟩
def withK (k:List KRow) (id:Bytes) (s:Sp):List KRow:=putA cmpB KRow.id (rowS id (match getA KRow.id k id with
 | some r=>uniS r.sp s
 | none=>s)) k
def NotAt (x:PV) (j:Nat):Prop:=∀ g off len,x≠.sl j 3 g off len
theorem kwith_KC (T:TB P) {H:Heap} {N:Nat} {x:PV} {k:List KRow} {id:Bytes} {s:Sp} {K:PV→Heap→List Nat→Prop} (hx:FN N H 3 x (En k)) (hNH:N≤H.n) (hv:Srt cmpB KRow.id k) (hL:k.length+1≤most) (hc:¬ spanC s.u s.x=0) (hs:s.wk) (hk:∀ r∈k,r.sp.wk∧r.extra.length+s.x.length≤most)
  (hK:∀ x' H' wl,FN N H' 3 x' (En (withK k id s))→H.n≤H'.n→(∀ j,j < H.n→NotAt x j→H'.at_ j=H.at_ j∧NotAt x' j)→(∀ j∈wl,N≤j)→K x' H' wl):KC (env P) 157 [x,sv id,.agg (spV s)] H K:=by
 have c1:=fun {dst:Option Nat} {rest:List CI} {i slot slot':Nat} {log:Log} {d:Dr} {K:Ex→St→Prop} {st:St} {ks:List Fr'} {xs:List O}=>VA_prim (E:=env P) (f:=157) (g:=203) (p:=pIns 3) (dst:=dst) (rest:=rest) (i:=i) (slot:=slot) (slot':=slot') (log:=log) (d:=d) (K:=K) (st:=st) (ks:=ks) (xs:=xs) rfl
 have kc:=spanCount_ans (P:=P) (u:=s.u) (l:=s.x)
 have kf:=knowFind_ans (P:=P) T (v:=k) (a:=id) hv (by omega)
 have hg:=get_fnd cmpB_ok id hv
 refine KC_of (cf:=c157) (fun _=>rfl) rfl ?_
 cases hx with
 | im hxv h0 =>
   have hk0:k=[]:=by cases k with
    | nil=>rfl
    | cons a l=>simp [En_cons] at h0
   subst hxv hk0
   have kf0:ans (env P) 139 [.im [] false,sv id]=some (.tup [iv 0,bv false]):=kf
   simp [c157,kc,hc,kf0,c1,pIns,chunks]
   refine hK _ _ _ (.row (H.n+1) rfl (by simp; rfl) (by omega) (by simp) rfl) (by simp; omega) (fun j hj hn=>⟨by simp [show j < H.n by omega,show ¬ j=H.n by omega,show ¬ j=H.n+1 by omega,show j < H.n+1 by omega],fun g o l e=>by cases e; omega⟩) ?_
   intro j hj
   simp at hj
   rcases hj with rfl | rfl <;> omega
 | row r hxv hb hNr hr hl =>
   subst hxv
   have hp:=plainss_En k
   have htk:List.take k.length (En k)=En k:=by have:=List.take_length (l:=En k); simpa using this
   have hne:¬ r=H.n:=by omega
   have hr1:r < H.n+1:=by omega
   cases hga:getA KRow.id k id with
   | none =>
     rw [hga] at hg
     have hfd:fnd (fun q=>cmpB q.id id) k=false:=hg
     rw [hfd] at kf
     have hble:=lbN_le (c:=fun q:KRow=>cmpB q.id id) k
     have hw:withK k id s=k.take (lbN (fun q=>cmpB q.id id) k)++rowS id s::k.drop (lbN (fun q=>cmpB q.id id) k):=by
      have h:=put_at (cmp:=cmpB) (key:=KRow.id) (rowS id s) k
      have hf2:fnd (fun a:KRow=>cmpB a.id (rowS id s).id) k=false:=hfd
      rw [hf2] at h
      simp only [Bool.false_eq_true,if_false] at h
      unfold withK
      rw [hga]
      exact h
     generalize lbN (fun q=>cmpB q.id id) k=b at *
     have hble':(b:Int)≤(k.length:Int):=by omega
     simp [c157,kc,hc,kf,c1,chunks,hb,hr,hp,htk,hne,hr1]
     simp [pIns,hb,hr,hne,hr1,hble,hble',hL]
     have hE:List.take b (En k)++[sv id,iv s.u,PV.im (En s.x) false]::List.drop b (En k)=En (withK k id s):=by rw [hw,En_take,En_drop,En_append,En_cons]; rfl
     have hEl:(withK k id s).length=k.length+1:=by rw [hw]; simp; omega
     refine hK _ _ _ (.row r (by simp [hEl]) (by simp [hr1,← hE]) hNr (by simp; omega) (allLen_En (α:=KRow) rfl _)) (by simp; omega) (fun j hj hn=>by
      have hjr:¬ j=r:=fun e=>hn _ _ _ (by rw [e])
      exact ⟨by simp [show j < H.n by omega,show ¬ j=H.n by omega,hjr,show j < H.n+1 by omega],fun g o l e=>by cases e; exact hjr rfl⟩) ?_
     intro j hj
     simp at hj
     rcases hj with rfl | rfl <;> omega
   | some q =>
     rw [hga] at hg
     have hfd:fnd (fun q=>cmpB q.id id) k=true:=hg.2
     rw [hfd] at kf
     obtain ⟨hqm,hqi⟩:=get_mem hga
     have hq:=hg.1
     have hw:withK k id s=k.set (lbN (fun q=>cmpB q.id id) k) (rowS id (uniS q.sp s)):=by
      have h:=put_at (cmp:=cmpB) (key:=KRow.id) (rowS id (uniS q.sp s)) k
      have hf2:fnd (fun a:KRow=>cmpB a.id (rowS id (uniS q.sp s)).id) k=true:=hfd
      rw [hf2] at h
      simp only [if_true] at h
      unfold withK
      rw [hga]
      exact h
     generalize lbN (fun q=>cmpB q.id id) k=b at *
     have hbl:b < k.length:=(List.getElem?_eq_some_iff.1 hq).1
     have hx:(En k)[b]?=some (Enc.c q):=En_at? hq
     have l1:loadR (.row 3 (En k) true) r 3 k.length b 1 2=some ([iv q.upto,lv q.extra],[r]):=by
      rw [loadR_row ⟨rfl,by simp⟩,hx]
      rfl
     have ku:=spanUnion_ans (P:=P) (a:=q.sp) (b:=s) (hk q hqm).1 hs (hk q hqm).2
     simp only [KRow.sp] at ku
     have hset:(En k).set b (Enc.c (rowS id (uniS q.sp s)))=En (withK k id s):=by rw [hw]; simp [En,List.map_set]
     have s1:∀ H:Heap,storeR H (.row 3 (En k) true) r 3 k.length b 1 (spV (uniS q.sp s))=some (H.put r (.row 3 (En (withK k id s)) true),r):=fun H=>by
      unfold storeR
      simp only [toRow,ob_some]
      rw [if_pos ⟨trivial,trivial,by simp⟩,hx,ob_some,if_pos (by simp),← hset]
      have:setL (Enc.c q) 1 (spV (uniS q.sp s))=Enc.c (rowS id (uniS q.sp s)):=by rw [← hqi]; rfl
      rw [this]
     simp only [KRow.sp] at s1
     have hEl:(withK k id s).length=k.length:=by rw [hw]; simp
     simp [c157,kc,hc,kf,c1,chunks,hb,hr,hp,htk,hne,hr1,hbl,l1,ku,s1]
     refine hK _ _ _ (.row r (by simp [hEl]) (by simp [hr1]) hNr (by simp <;> omega) (allLen_En (α:=KRow) rfl _)) (by simp <;> omega) (fun j hj hn=>by
      have hjr:¬ j=r:=fun e=>hn _ _ _ (by rw [e])
      exact ⟨by simp [show j < H.n by omega,show ¬ j=H.n by omega,hjr,show j < H.n+1 by omega],fun g o l e=>by cases e; exact hjr rfl⟩) ?_
     intro j hj
     simp at hj
     rcases hj with rfl | rfl <;> omega
end Go.Evl.Zone

namespace Go.Evl.Zone
open Go Go.Evl
variable {P:Program}
theorem rise_len {hi:Int}:∀ (l:List Int) (lo:Int),l.Pairwise (· < ·)→(∀ n∈l,lo < n∧n≤hi)→lo≤hi→(l.length:Int)≤hi - lo
 | [],lo,_,_,h=>by simp; omega
 | a::l,lo,hs,hb,h=>by
   obtain ⟨h1,h2⟩:=List.pairwise_cons.1 hs
   have ha:=hb a (by simp)
   have:=rise_len (hi:=hi) l a h2 (fun n hn=>⟨h1 n hn,(hb n (by simp [hn])).2⟩) ha.2
   simp only [List.length_cons]
   omega
theorem Sp.ok.len {s:Sp} (h:s.ok):s.x.length≤1048576:=by
 have:=rise_len (hi:=1048576) s.x 0 h.srt (fun n hn=>⟨by have:=h.x0 n hn; omega,h.x1 n hn⟩) (by omega)
 omega
theorem spanC_ne {s:Sp} (h:s.ok) {n:Int} (hn:s.Has n):¬ spanC s.u s.x=0:=by
 have hl:=h.len
 have h0:=h.u0
 have h1:=h.u1
 unfold spanC
 rw [wrap64_id (by omega)]
 obtain ⟨p,q | q⟩:=hn
 ·omega
 ·have:0 < s.x.length:=List.length_pos_of_mem q
  omega
structure KOK (k:List KRow):Prop where
 srt:Srt cmpB KRow.id k
 ok:∀ r∈k,r.sp.ok
 ne:∀ r∈k,∃ n,r.sp.Has n
theorem KOK.nil:KOK []:=⟨List.Pairwise.nil,by simp,by simp⟩
theorem KOK.with {k:List KRow} (h:KOK k) {id:Bytes} {s:Sp} (hs:s.ok) {n:Int} (hn:s.Has n):KOK (withK k id s):=by
 have hrow:∀ t:Sp,(rowS id t).sp=t:=fun t=>rfl
 have key:∀ r∈withK k id s,r.sp.ok∧∃ n,r.sp.Has n:=fun r hr=>by
  unfold withK at hr
  rcases (mem_put cmpB_ok h.srt).1 hr with rfl | ⟨hm,_⟩
  ·rw [hrow]
   cases hg:getA KRow.id k id with
   | none=>exact ⟨hs,n,hn⟩
   | some q =>
     obtain ⟨k1,k2⟩:=uniS_ok (h.ok q (get_mem hg).1).towk hs.towk
     exact ⟨k1,n,(k2 n).2 (.inr hn)⟩
  ·exact ⟨h.ok r hm,h.ne r hm⟩
 exact ⟨srt_put cmpB_ok h.srt,fun r hr=>(key r hr).1,fun r hr=>(key r hr).2⟩
theorem putA_len {α κ:Type} {cmp:κ→κ→Int} {key:α→κ} (x:α):∀ l:List α,(putA cmp key x l).length≤l.length+1
 | []=>by simp [putA]
 | b::l=>by
   have:=putA_len (cmp:=cmp) (key:=key) x l
   unfold putA
   split
   ·simp; omega
   ·split <;> simp
theorem withK_len (k:List KRow) (id:Bytes) (s:Sp):(withK k id s).length≤k.length+1:=putA_len _ _
def unionK (a b:List KRow):List KRow:=b.foldl (fun k r=>withK k r.id r.sp) a
theorem kUnion_loop (T:TB P) {b:List KRow} (hb:KOK b) {r2:Nat} {ks:List Fr'} {K:Ex→St→Prop} (hLb:b.length≤most):∀ (rest:List KRow) (i:Nat) (st:St) (x:PV) (k:List KRow),b.drop i=rest→i≤b.length→KOK k→k.length+rest.length+1≤most→st.σ 5=x→FN 0 st.h 3 x (En k)→NotAt x r2→(b=[]∨(st.σ 11 = .sl r2 3 b.length 0 b.length∧st.h.at_ r2 = .row 3 (En b) true∧r2 < st.h.n))→st.σ 12=iv b.length→st.σ 13=iv i →
  (∀ st' x k',k'=rest.foldl (fun k r=>withK k r.id r.sp) k→st'.σ 5=x→FN 0 st'.h 3 x (En k')→VN (env P) 90 st' ks K)→V (env P) 90 (.loop L90_0) st (.blk 0::ks) K
 | [],i,st,x,k,hr,hile,hk,hm,h5,hx,hn,h11,h12,h13,hend=>by
   obtain ⟨hii,hlt,hd⟩:=drop_nil hr hile
   have c1:¬ (i:Int) < (b.length:Int):=by omega
   rw [V_loop]
   simp [L90_0,h12,h13,c1,hlt]
   exact hend _ x _ rfl (by simp [h5]) hx.grow
 | q::rest,i,st,x,k,hr,hile,hk,hm,h5,hx,hn,h11,h12,h13,hend=>by
   obtain ⟨hq,hlt,hr',_⟩:=drop_cons hr
   have hqm:=List.mem_of_getElem? hq
   obtain ⟨h11,hb2,hr2⟩:=h11.resolve_left (fun e=>by rw [e] at hlt; simp at hlt)
   have hw1:=wrapS (i:=i) (by unfold most at hLb; omega)
   have hxq:(En b)[i]?=some (Enc.c q):=En_at? hq
   have l1:loadR (.row 3 (En b) true) r2 3 b.length i 0 3=some (Enc.c q,[r2]):=by
    rw [loadR_row ⟨rfl,by simp⟩,hxq]
    rfl
   obtain ⟨n,hnq⟩:=hb.ne q hqm
   have hne:¬ r2=st.h.n:=by omega
   have hr21:r2 < st.h.n+1:=by omega
   simp only [List.length_cons] at hm
   rw [V_loop]
   simp [L90_0,h11,h12,h13,hlt,hb2,hr2,l1,h5,hne,hr21]
   refine VA_keep (g:=157) (caps:=[]) rfl rfl ?_
   simp
   refine kwith_KC T (N:=0) (x:=x) (k:=k) (id:=q.id) (s:=q.sp) (hx.keep (by simp <;> omega) fun r _ hr=>by simp [show ¬ r=st.h.n by omega,hr,show r < st.h.n+1 by omega]) (by omega) hk.srt (by omega) (spanC_ne (hb.ok q hqm) hnq) (hb.ok q hqm).towk (fun r hr=>⟨(hk.ok r hr).towk,by have h1:=(hk.ok r hr).len; have h2:=(hb.ok q hqm).len; simp only [KRow.sp] at h1 h2 ⊢; unfold most; omega⟩) fun x' H' wl e1 e2 e3 e4=>?_
   simp at e2 e3
   obtain ⟨f1,f2⟩:=e3 r2 (by omega) hn
   simp [hne,hr2,hr21] at f1
   have hr3:r2 < H'.n:=by omega
   simp [h13,hw1]
   refine kUnion_loop T hb (r2:=r2) hLb rest (i+1) _ x' (withK k q.id q.sp) hr' (by omega) (hk.with (hb.ok q hqm) hnq) ?_ (by simp) (by repeat (first | exact e1 | refine FN.grow ?_)) f2 (.inr ⟨by simp [h11],by simp [f1,hb2,hr3],by simpa using hr3⟩) (by simp [h12]) (by simp) (fun st' x k' a b c=>hend st' x k' (by rw [a]; rfl) b c)
   have:=withK_len k q.id q.sp
   omega
theorem kUnion_ans (T:TB P) {a b:List KRow} (ha:KOK a) (hb:KOK b) (hL:a.length+b.length+1≤most):ans (env P) 90 [lv a,lv b]=some (lv (unionK a b)):=by
 have hM:most=68719476736:=rfl
 have exl:∀ {k:List KRow},KOK k→∀ q∈k,q.extra.length≤most:=fun hk q hq=>by
  have:=(hk.ok q hq).len
  simp only [KRow.sp] at this
  omega
 refine ans_V rfl rfl ?_
 simp [c90]
 refine VA_keep (g:=156) (caps:=[]) rfl rfl ?_
 simp
 refine kcopied_KC (by omega) (exl ha) fun x H1 wl1 e1 e2 e3 e4=>?_
 try simp
 refine VA_keep (g:=156) (caps:=[]) rfl rfl ?_
 simp
 refine kcopied_KC (by omega) (exl hb) fun y H2 wl2 g1 g2 g3 g4=>?_
 have g2:H1.n≤H2.n:=by simpa using g2
 have g3:∀ j,j < H1.n→H2.at_ j=(H1.grow 0).at_ j:=fun j hj=>by simpa using g3 j (by simpa using hj)
 have hx2:FN 0 H2 3 x (En a):=by
  cases e1 with
  | im hv h0=>exact .im hv h0
  | row r hv hb hN hr hl=>exact .row r hv (by rw [g3 r hr]; simp [hr,hb]) (Nat.zero_le _) (by omega) hl
 have hxn:∀ j,H1.n≤j→NotAt x j:=fun j hj g off len e=>by
  cases e1 with
  | im hv h0=>rw [hv] at e; cases e
  | row r hv hb hN hr hl=>rw [hv] at e; cases e; omega
 have hfin:∀ (st':St) (x:PV) (k':List KRow),k'=b.foldl (fun k r=>withK k r.id r.sp) a→st'.σ 5=x→FN 0 st'.h 3 x (En k')→∃ is,expV (st'.h.grow 0) x=some (lv (unionK a b),is):=fun st' x k' h1 _ h3=>by
  rw [h1] at h3
  exact (h3.grow (m:=0)).ln.l.expV (plainss_En _)
 cases g1 with
 | im hv h0 =>
   have hb0:b=[]:=by cases b with
    | nil=>rfl
    | cons a l=>simp [En_cons] at h0
   subst hv hb0
   simp
   refine kUnion_loop T hb (r2:=H1.n) (by simp) [] 0 _ x a rfl (by simp) ha (by simpa using hL) (by simp) (by repeat (first | exact hx2 | refine FN.grow ?_)) (hxn _ (Nat.le_refl _)) (.inl rfl) (by simp) (by simp) ?_
   intro st' x k' h1 h2 h3
   simp [h2]
   exact hfin st' x k' h1 h2 h3
 | row r hv hbr hN hr hl =>
   subst hv
   simp at hN
   simp
   refine kUnion_loop T hb (r2:=r) (by omega) b 0 _ x a rfl (by omega) ha hL (by simp) (by repeat (first | exact hx2 | refine FN.grow ?_)) (hxn _ hN) (.inr ⟨by simp,by simp [hbr,hr],by simpa using hr⟩) (by simp) (by simp) ?_
   intro st' x k' h1 h2 h3
   simp [h2]
   exact hfin st' x k' h1 h2 h3
end Go.Evl.Zone

namespace Go.Evl.Zone
open Go Go.Evl
variable {P:Program}
theorem storeRG {H:Heap} {k r g i:Nat} {xs:List (List PV)} {y vs:List PV} (hg:g=xs.length) (h:xs[i]?=some y) (hy:y.length=k) (hv:vs.length=k):storeR H (.row k xs true) r k g i 0 vs=some (H.put r (.row k (xs.set i vs) true),r):=by
 have e:setL y 0 vs=vs:=by
  unfold setL
  simp [List.drop_of_length_le,hy,hv]
 have e2:storeR H (.row k xs true) r k g i 0 vs=ob xs[i]? fun cs=>if 0+vs.length≤cs.length then some (H.put r (.row k (xs.set i (setL cs 0 vs)) true),r) else none:=by
  unfold storeR
  simp only [toRow,ob_some]
  rw [if_pos ⟨trivial,trivial,hg⟩]
 rw [e2,h,ob_some,e,if_pos (by omega)]
theorem ln_sameG {N k:Nat} {h h':Heap} {x:PV} {ys:List (List PV)} (a:LN N h k x ys) (e:h'.n=h.n∧∀ i,i < h.n→h'.at_ i=h.at_ i):LN N h' k x ys:=⟨a.l.keep (by rw [e.1]; exact Nat.le_refl _) fun i hi _=>e.2 i hi,a.b⟩
def getS (v:List KRow) (id:Bytes):Sp:=match getA KRow.id v id with
 | some r=>r.sp
 | none=>⟨0,[]⟩
theorem r4Of_loop {v:List KRow} {a:Bytes} {ks:List Fr'} {K:Ex→St→Prop} (hL:v.length≤most):∀ (rest:List KRow) (i:Nat) (st:St),v.drop i=rest→i≤v.length→st.σ 0=lv v→st.σ 1=sv a→st.σ 5=iv i→st.σ 4 = .ptr 0 0→st.h.at_ 0 = .box [iv 0,.im [] true]→0 < st.h.n →
  (∀ st' q,getA KRow.id rest a=some q→st'.σ 4 = .ptr 0 0→st'.h.at_ 0 = .box [iv q.upto,lv q.extra]→0 < st'.h.n→K .ret st')→(∀ st',getA KRow.id rest a=none→st'.σ 4 = .ptr 0 0→st'.h.at_ 0 = .box [iv 0,.im [] true]→0 < st'.h.n→VN (env P) 88 st' ks K)→V (env P) 88 (.loop L88_0) st (.blk 0::ks) K
 | [],i,st,hr,hile,h0,h1,h5,h4,hb,hn,hret,hend=>by
   obtain ⟨hii,hlt,hd⟩:=drop_nil hr hile
   rw [V_loop]
   simp [L88_0,h0,h5,hlt]
   exact hend _ rfl (by simp [h4]) (by simp [hb,hn]) (by simpa using hn)
 | q::rest,i,st,hr,hile,h0,h1,h5,h4,hb,hn,hret,hend=>by
   obtain ⟨hq,hlt,hr',_⟩:=drop_cons hr
   have hc:=En_at hq
   have hw:=wrapS (i:=i) (by unfold most at hL; omega)
   rw [V_loop]
   by_cases e:q.id=a
   ·have hs:=fun t cx cy=>evBin_seql (P:=P) (t:=t) (cx:=cx) (cy:=cy) a a
    simp only [decide_true] at hs
    simp [L88_0,h0,h1,h5,h4,hb,hn,hlt,hc,hw,hs,e]
    exact hret _ q (by simp [getA,e]) (by simp [h4]) (by simp [hn]) (by simpa using hn)
   ·have hs:=fun t cx cy=>evBin_seql (P:=P) (t:=t) (cx:=cx) (cy:=cy) q.id a
    simp only [e,decide_false] at hs
    simp [L88_0,h0,h1,h5,h4,hb,hn,hlt,hc,hw,hs,e]
    exact r4Of_loop (a:=a) hL rest (i+1) _ hr' (by omega) (by simp [h0]) (by simp [h1]) (by simp) (by simp [h4]) (by simp [hb,hn]) (by simpa using hn) (fun st' p h=>hret st' p (by simpa [getA,e] using h)) (fun st' h=>hend st' (by simpa [getA,e] using h))
theorem r4Of_ans {v:List KRow} {a:Bytes} (hL:v.length≤most):ans (env P) 88 [lv v,sv a]=some (.agg (spV (getS v a))):=by
 refine ans_V rfl rfl ?_
 simp [c88]
 refine r4Of_loop (a:=a) hL v 0 _ rfl (by omega) (by simp) (by simp) (by simp) (by simp) (by simp) (by simp) ?_ ?_
 ·intro st' q hg h4 hb hn
  simp [h4,hb,hn,getS,hg,KRow.sp]
 ·intro st' hg h4 hb hn
  simp [h4,hb,hn,getS,hg]
theorem rdrop4_loop {v:List KRow} {a:Bytes} {N:Nat} {ks:List Fr'} {K:Ex→St→Prop} (hL:v.length≤most):∀ (rest:List KRow) (i:Nat) (st:St) (x:PV) (L:List KRow),v.drop i=rest→i≤v.length→st.σ 0=lv v→st.σ 1=sv a→st.σ 6=iv i→st.σ 5=x→LN N st.h 3 x (En L)→L.length≤i→N≤st.h.n→(∀ j∈st.wl,N≤j) →
  (∀ st' x,st'.σ 5=x→LN N st'.h 3 x (En (L++rest.filter fun q=>decide (q.id≠a)))→N≤st'.h.n→(∀ j,j < N→st'.h.at_ j=st.h.at_ j)→(∀ j∈st'.wl,N≤j)→VN (env P) 161 st' ks K)→V (env P) 161 (.loop L161_0) st (.blk 0::ks) K
 | [],i,st,x,L,hr,hile,h0,h1,h6,h5,hl,hle,hN,hw,hend=>by
   obtain ⟨hii,hlt,hd⟩:=drop_nil hr hile
   rw [V_loop]
   simp [L161_0,h0,h6,hlt]
   exact hend _ x (by simp [h5]) (by simpa using hl.grow) (by simpa using hN) (fun j hj=>by simp [show j < st.h.n by omega]) hw
 | q::rest,i,st,x,L,hr,hile,h0,h1,h6,h5,hl,hle,hN,hw,hend=>by
   obtain ⟨hq,hlt,hr',ht⟩:=drop_cons hr
   have hc:=En_at hq
   have hwi:=wrapS (i:=i) (by unfold most at hL; omega)
   have hn:=fun t cx cy=>evBin_sneq (P:=P) (t:=t) (cx:=cx) (cy:=cy) q.id a
   rw [V_loop]
   by_cases hqa:q.id=a
   ·have hn:=fun t cx cy=>evBin_sneq (P:=P) (t:=t) (cx:=cx) (cy:=cy) a a
    simp only [ne_eq,not_true_eq_false,decide_false] at hn
    simp [L161_0,h0,h1,h6,hlt,hc,hn,hwi,hqa]
    refine rdrop4_loop (a:=a) hL rest (i+1) _ x L hr' (by omega) (by simp [h0]) (by simp [h1]) (by simp) (by simp [h5]) (by repeat (first | exact hl | refine LN.grow ?_)) (by omega) (by simpa using hN) hw fun st' x e1 e2 e3 e4 e5=>hend st' x e1 (by simpa [hqa] using e2) e3 (fun j hj=>by rw [e4 j hj]; simp [show j < st.h.n by omega]) e5
   ·simp [L161_0,h0,h1,h6,h5,hlt,hc,hn,hwi,hqa,chunks,elems,allLen]
    refine VP_appN (N:=N) (ys:=En L) (by repeat (first | exact hl | refine LN.grow ?_)) (by simp) (by simp) hN (by simp [allLen]) (by simp; omega) fun v' H' wr rd e2 e3 _ e5 e6=>?_
    simp [h6,hwi,e3]
    refine rdrop4_loop (a:=a) hL rest (i+1) _ v' (L++[q]) hr' (by omega) (by simp [h0]) (by simp [h1]) (by simp) (by simp) ?_ (by simp; omega) (by simp [e3]; omega) (fun j hj=>(List.mem_append.1 hj).elim (e6 j) (hw j)) fun st' x g1 g2 g3 g4 g5=>hend st' x g1 (by simpa [hqa] using g2) g3 (fun j hj=>by rw [g4 j hj]; simp [e3,show j < st.h.n+1 by omega,e5 j hj,show j < st.h.n by omega]) g5
    rw [En_append,En_one]
    repeat (first | exact e2 | refine LN.grow ?_)
theorem rdrop4_KC {H:Heap} {v:List KRow} {a:Bytes} {K:PV→Heap→List Nat→Prop} (hL:v.length≤most) (hK:∀ x H' wl,LN H.n H' 3 x (En (v.filter fun q=>decide (q.id≠a)))→H.n≤H'.n→(∀ j,j < H.n→H'.at_ j=H.at_ j)→(∀ j∈wl,H.n≤j)→K x H' wl):KC (env P) 161 [lv v,sv a] H K:=by
 refine KC_of (cf:=c161) (fun _=>rfl) rfl ?_
 simp [c161]
 refine rdrop4_loop (a:=a) (N:=H.n) hL v 0 _ (.im [] true) [] rfl (by omega) (by simp) (by simp) (by simp) (by simp) LN.nil (by simp) (by simp) (by simp) fun st' x e1 e2 e3 e4 e5=>?_
 simp [e1,resV,resP]
 have E:=keepH (h:=st'.h) (H:=H) (n:=st'.h.n) rfl
 refine hK x _ _ (ln_sameG e2 E) (Nat.le_trans e3 (Nat.le_of_eq E.1.symm)) (fun j hj=>(E.2 j (by omega)).trans (by rw [e4 j hj]; simp [hj])) e5
theorem rput4_loop {ks:List Fr'} {K:Ex→St→Prop} {x:KRow} (hx:x.id.length≤big):∀ (L1 L2:List KRow) (st:St) (w:PV) (r:Nat) (xs:List (List PV)),(∀ q∈L1,q.id.length≤big∧q.id≠x.id)→L1.length+L2.length+1≤most→st.σ 7=w→Rw st.h 3 w (En (L1++x::L2)) r xs→st.σ 8=iv L1.length→(∀ z,L2.head?=some z→cmpB x.id z.id < 0) →
  (∀ st' L1' L2' w' r' xs',L1'++L2'=L1++L2→(∀ y,lastP none L1'=some y→cmpB y.id x.id < 0)→(∀ z,L2'.head?=some z→cmpB x.id z.id < 0)→st'.σ 7=w'→Rw st'.h 3 w' (En (L1'++x::L2')) r' xs'→VN (env P) 100 st' ks K)→V (env P) 100 (.loop L100_0) st (.blk 0::ks) K:=by
 intro L1
 generalize hn:L1.length=n
 induction n generalizing L1 with
 | zero =>
   intro L2 st w r xs hids hm hl hR hi h2 hend
   obtain rfl:L1=[]:=List.length_eq_zero_iff.1 hn
   rw [V_loop]
   simp [L100_0,hl,hi]
   exact hend _ [] L2 w r xs rfl (by simp [lastP]) h2 (by simp [hl]) hR.grow
 | succ n ih =>
   intro L2 st w r xs hids hm hl hR hi h2 hend
   obtain ⟨L1,y,rfl⟩:∃ L y,L1=L++[y]:=by
    rcases List.eq_nil_or_concat L1 with h | ⟨L,y,h⟩
    ·rw [h] at hn; simp at hn
    ·exact ⟨L,y,by simpa using h⟩
   have hn':L1.length=n:=by simpa using hn
   have hy:=hids y (by simp)
   have hk:=r1Compare_ans (P:=P) (s:=y.id) (t:=x.id) hy.1 hx
   have hv:=hR.v
   have hb:=hR.b
   have hlt:=hR.lt
   have hle:=hR.le
   have eq:=hR.eq
   simp only [En_length,List.length_append,List.length_cons,List.length_nil] at hle eq
   have ix:∀ (j:Nat) (q:KRow),((L1++[y])++x::L2)[j]?=some q→xs[j]?=some (Enc.c q):=fun j q hq=>by
    have h1:(En ((L1++[y])++x::L2))[j]?=some (Enc.c q):=En_at? hq
    rw [← hR.eq,List.getElem?_take] at h1
    split at h1
    ·exact h1
    ·cases h1
   have iy:=ix n y (by simp [← hn'])
   have ixx:=ix (n+1) x (by simp [← hn'])
   have hm':=hm
   unfold most at hm'
   have wn:IntKind.i64.wrap (n:Int)=(n:Int):=wrap64_id (by simp at hm'; omega)
   have b0:(n:Int) < (n:Int)+((L2.length:Int)+1+1):=by omega
   have b1:(n:Int)+1 < (n:Int)+((L2.length:Int)+1+1):=by omega
   have b2:(0:Int)≤(n:Int)+1:=by omega
   have b3:((n:Int)+1).toNat=n+1:=by omega
   have b4:n < n+(L2.length+1+1):=by omega
   have b5:n+1 < n+(L2.length+1+1):=by omega
   have hi':st.σ 8=iv ((n:Int)+1):=by rw [hi]; rfl
   have lx:n < xs.length:=by omega
   have lx1:n+1 < xs.length:=by omega
   rw [V_loop]
   have iy2:(xs.set n (Enc.c x))[n+1]?=some (Enc.c x):=by rw [List.getElem?_set_ne (by omega)]; exact ixx
   have s1:∀ H,storeR H (.row 3 xs true) r 3 xs.length n 0 (Enc.c x)=some (H.put r (.row 3 (xs.set n (Enc.c x)) true),r):=fun H=>storeRG rfl iy rfl rfl
   have s2:∀ H,storeR H (.row 3 (xs.set n (Enc.c x)) true) r 3 xs.length (n+1) 0 (Enc.c y)=some (H.put r (.row 3 ((xs.set n (Enc.c x)).set (n+1) (Enc.c y)) true),r):=fun H=>storeRG (by simp) iy2 rfl rfl
   simp only [Enc.c] at s1 s2
   by_cases hc:0 < cmpB y.id x.id
   ·simp [L100_0,hl,hv,hi',hk,hb,hlt,hn',wn,b0,b1,b2,b3,b4,b5,iy,ixx,hc,loadR_row,s1,s2]
    refine ih L1 hn' (y::L2) _ w r _ (fun q hq=>hids q (by simp [hq])) (by simp at hm ⊢; omega) (by simp [hl,hv,hn']) (Rw.grow (m:=0) (ys:=En (L1++x::y::L2)) (xs:=(xs.set n (Enc.c x)).set (n+1) (Enc.c y)) ?_) (by simp [hn']) (fun z hz=>?_) fun st' L1' L2' w' r' xs' e1=>hend st' L1' L2' w' r' xs' (by simpa using e1)
    ·have R1:=(hR.grow (m:=0)).set (i:=n) (y:=Enc.c x) rfl
     have R2:=R1.set (i:=n+1) (y:=Enc.c y) rfl
     rw [show En (L1++x::y::L2)=((En ((L1++[y])++x::L2)).set n (Enc.c x)).set (n+1) (Enc.c y) by
      rw [← hn']
      simp [En_append,En_cons,En_length]]
     exact R2
    ·obtain rfl:y=z:=by simpa using hz
     exact cmp_anti _ _ hc
   ·simp [L100_0,hl,hv,hi',hk,hb,hlt,hn',wn,b0,b1,b2,b3,b4,b5,iy,ixx,hc,loadR_row]
    refine hend _ (L1++[y]) L2 w r xs rfl (fun z hz=>?_) h2 (by simp [hl,hv,hn']) (by repeat (first | exact hR | refine Rw.grow ?_))
    rw [lastP_some] at hz
    obtain rfl:y=z:=by simpa using hz
    have h3:cmpB y.id x.id≠0:=fun h=>hy.2 (cmp_zero y.id x.id h)
    omega
theorem rput4_ans {v:List KRow} {a:Bytes} {s:Sp} (ha:a.length≤big) (hi:∀ q∈v,q.id.length≤big) (hv:Srt cmpB KRow.id v) (hL:v.length < most) (hc:¬ spanC s.u s.x < 1):ans (env P) 100 [lv v,sv a,.agg (spV s)]=some (lv (putA cmpB KRow.id (rowS a s) v)):=by
 have kc:=r2Count_ans (P:=P) (u:=s.u) (l:=s.x)
 refine ans_V rfl rfl ?_
 simp [c100]
 refine VA_keep (g:=161) (caps:=[]) rfl rfl ?_
 simp
 refine rdrop4_KC (by omega) fun x H' wl d1 d2 d3 d4=>?_
 have g0:=d3 0
 simp at g0 d2
 have n0:0 < H'.n:=by omega
 simp [kc,hc,chunks,elems,allLen,g0,n0]
 obtain ⟨F,hF⟩:∃ F,F=v.filter (fun q=>decide (q.id≠a)):=⟨_,rfl⟩
 rw [← hF] at d1
 have hFl:F.length≤v.length:=by rw [hF]; exact List.length_filter_le _ _
 have hFi:∀ q∈F,q.id.length≤big∧q.id≠a:=fun q hq=>by
  rw [hF] at hq
  have:=List.mem_filter.1 hq
  exact ⟨hi q this.1,by simpa using this.2⟩
 refine VP_appR (ys:=En F) (by repeat (first | exact d1.l | refine Lst.grow ?_)) (by simp) (by simp) (by simp [allLen]) (by simp) (by simp; omega) fun v' H2 wr rd r xs e2 e3 _=>?_
 have e2':Rw H2 3 v' (En (F++rowS a s::[])) r xs:=by rw [En_append,En_one]; exact e2
 have hle:lenP false v'=some (F.length+1):=by rw [e2'.lst.len]; simp
 have hFm:F.length < 68719476736:=by
  have:most=68719476736:=rfl
  omega
 have wF:IntKind.i64.wrap (F.length:Int)=(F.length:Int):=wrap64_id (by omega)
 simp [e3,hle,wF]
 refine rput4_loop (x:=rowS a s) ha F [] _ v' r xs hFi (by simp; unfold most; omega) (by simp) (by repeat (first | exact e2' | refine Rw.grow ?_)) (by simp) (by simp) fun st' L1 L2 w' r' xs' u1 u2 u3 u4 u5=>?_
 have hput:=put_of cmpB_ok (x:=rowS a s) hv (L1:=L1) (L2:=L2) (by rw [u1,List.append_nil,hF]; rfl) u2 u3
 rw [hput] at u5
 obtain ⟨is,hx⟩:=(Rw.grow (m:=0) u5).lst.expV (plainss_En _)
 simp [u4]
 exact ⟨is,hx⟩
end Go.Evl.Zone

namespace Go.Evl.Zone
open Go Go.Evl
variable {P:Program}
theorem uniS_nil {s:Sp} (h:s.ok):uniS ⟨0,[]⟩ s=s:=by
 obtain ⟨k1,k2⟩:=uniS_ok (nil_ok (u:=0) (by omega) (by omega)).towk h.towk
 refine Sp.ext_has k1 h fun n=>?_
 rw [k2 n]
 constructor
 ·rintro (⟨p,q | q⟩ | p)
  ·simp only at q; omega
  ·simp at q
  ·exact p
 ·exact .inr
theorem getS_ok {k:List KRow} (h:KOK k) (id:Bytes):(getS k id).ok:=by
 unfold getS
 cases hg:getA KRow.id k id with
 | none=>exact nil_ok (by omega) (by omega)
 | some r=>exact h.ok r (get_mem hg).1
theorem withK_eq {k:List KRow} {id:Bytes} {s:Sp} (hs:s.ok):putA cmpB KRow.id (rowS id (uniS (getS k id) s)) k=withK k id s:=by
 unfold withK getS
 cases getA KRow.id k id with
 | none=>rw [uniS_nil hs]
 | some r=>rfl
def IdB (k:List KRow):Prop:=∀ q∈k,q.id.length≤big
theorem IdB.with {k:List KRow} (hk:KOK k) (h:IdB k) {id:Bytes} {s:Sp} (hi:id.length≤big):IdB (withK k id s):=fun q hq=>by
 unfold withK at hq
 rcases (mem_put cmpB_ok hk.srt).1 hq with rfl | ⟨hm,_⟩
 ·exact hi
 ·exact h q hm
theorem r4With {k:List KRow} {q:KRow} (hk:KOK k) (hi:IdB k) (hq:q.sp.ok) (hne:∃ n,q.sp.Has n) (hqi:q.id.length≤big) (hL:k.length < most) :
  ans (env P) 175 [.agg (spV (getS k q.id)),.agg (spV q.sp)]=some (.agg (spV (uniS (getS k q.id) q.sp)))∧ans (env P) 100 [lv k,sv q.id,.agg (spV (uniS (getS k q.id) q.sp))]=some (lv (withK k q.id q.sp)):=by
 have hM:most=68719476736:=rfl
 have hg:=getS_ok hk q.id
 have h1:=hg.len
 have h2:=hq.len
 obtain ⟨k1,k2⟩:=uniS_ok hg.towk hq.towk
 obtain ⟨n,hn⟩:=hne
 have h3:=spanC_ne k1 ((k2 n).2 (.inr hn))
 have h4:=spanC_nn (u:=(uniS (getS k q.id) q.sp).u) (l:=(uniS (getS k q.id) q.sp).x)
 refine ⟨r2Union_ans hg hq (by omega),?_⟩
 rw [← withK_eq hq]
 refine rput4_ans hqi hi hk.srt hL ?_
 have h5:=k1.len
 have h6:=k1.u0
 have h7:=k1.u1
 unfold spanC at h3 ⊢
 rw [wrap64_id (by omega)] at h3 ⊢
 omega
theorem r4U_loop {b:List KRow} (hb:KOK b) (hbi:IdB b) {ks:List Fr'} {K:Ex→St→Prop} (hLb:b.length≤most):∀ (rest:List KRow) (i:Nat) (st:St) (k:List KRow) (fl:Bool),b.drop i=rest→i≤b.length→st.σ 1=lv b→st.σ 5 = .im (En k) fl→st.σ 6=iv i→KOK k→IdB k→k.length+rest.length < most →
  (∀ st' fl,st'.σ 5 = .im (En (rest.foldl (fun k r=>withK k r.id r.sp) k)) fl→VN (env P) 117 st' ks K)→V (env P) 117 (.loop L117_0) st (.blk 0::ks) K
 | [],i,st,k,fl,hr,hile,h1,h5,h6,hk,hi,hm,hend=>by
   obtain ⟨hii,hlt,hd⟩:=drop_nil hr hile
   rw [V_loop]
   simp [L117_0,h1,h6,hlt]
   exact hend _ fl (by simp [h5])
 | q::rest,i,st,k,fl,hr,hile,h1,h5,h6,hk,hi,hm,hend=>by
   obtain ⟨hq,hlt,hr',_⟩:=drop_cons hr
   have hqm:=List.mem_of_getElem? hq
   have hc:=En_at hq
   have hw:=wrapS (i:=i) (by unfold most at hLb; omega)
   simp only [List.length_cons] at hm
   have k0:=r4Of_ans (P:=P) (v:=k) (a:=q.id) (by omega)
   obtain ⟨k1,k2⟩:=r4With (P:=P) hk hi (hb.ok q hqm) (hb.ne q hqm) (hbi q hqm) (by omega)
   have hwl:=withK_len k q.id q.sp
   simp only [KRow.sp] at k1 k2
   rw [V_loop]
   simp [L117_0,h1,h5,h6,hlt,hc,hw,k0,k1,k2]
   obtain ⟨n,hn⟩:=hb.ne q hqm
   exact r4U_loop hb hbi hLb rest (i+1) _ (withK k q.id q.sp) false hr' (by omega) (by simp [h1]) (by simp; rfl) (by simp) (hk.with (hb.ok q hqm) hn) (hi.with hk (hbi q hqm)) (by omega) hend
theorem own1_ex {H:Heap} {r k:Nat} {xs:List (List PV)} {w:Bool} (v:PV) (hb:H.at_ r = .row k xs w):∃ H' wr,own1 H [r] v=⟨v,H',wr,some [r]⟩∧H'.n=H.n∧∃ w',H'.at_ r = .row k xs w':=by
 unfold own1
 split
 ·exact ⟨_,_,rfl,rfl,w,hb⟩
 ·exact ⟨_,_,rfl,by rw [freeze_n],by rw [freeze_at,hb]; simp⟩
theorem r4Union_ans {a b:List KRow} (ha:KOK a) (hai:IdB a) (hb:KOK b) (hbi:IdB b) (hL:a.length+b.length < most):ans (env P) 117 [lv a,lv b]=some (lv (unionK a b)):=by
 have hM:most=68719476736:=rfl
 have hp:=plainss_En a
 have htk:List.take a.length (En a)=En a:=by have:=List.take_length (l:=En a); simpa using this
 refine ans_V rfl rfl ?_
 simp [c117,chunks,elems,allLen,htk]
 by_cases h0:a=[]
 ·subst h0
  have e1:appendP (Heap.empty.grow 1) 0 3 (.im [] true) []=some (.im [] true,Heap.empty.grow 1,[],[]):=rfl
  simp [e1]
  refine r4U_loop hb hbi (by omega) b 0 _ [] true rfl (by omega) (by simp) (by simp) (by simp) KOK.nil (by intro q hq; cases hq) (by simpa using hL) ?_
  intro st' fl h5
  simp [h5]
  rfl
 ·have hl:¬ (En a).length=0:=by simpa using h0
  have e1:appendP (Heap.empty.grow 1) 0 3 (.im [] true) (En a)=some (.sl 0 3 (En a).length 0 (En a).length,(Heap.empty.grow 1).put 0 (.row 3 (En a) true),[0],[]):=by
   unfold appendP
   rw [if_neg hl]
   simp only [List.length_nil,Nat.zero_add,List.nil_append]
   rw [if_pos ⟨rfl,by simp; omega⟩]
  simp [e1]
  cases b with
  | nil =>
    rw [V_loop]
    simp [L117_0,hp,htk]
    rfl
  | cons q b' =>
    have hqm:q∈q::b':=by simp
    have k0:=r4Of_ans (P:=P) (v:=a) (a:=q.id) (by omega)
    obtain ⟨k1,k2⟩:=r4With (P:=P) ha hai (hb.ok q hqm) (hb.ne q hqm) (hbi q hqm) (by omega)
    simp only [KRow.sp] at k1 k2
    obtain ⟨H1,wr1,ho1,n1,w1,r1⟩:=own1_ex (H:=((Heap.empty.grow 1).put 0 (.row 3 (En a) true)).grow 0) (r:=0) (k:=3) (xs:=En a) (w:=true) (.agg (spV (getS a q.id))) (by simp)
    simp at n1
    have n0:0 < H1.n:=by omega
    rw [V_loop]
    obtain ⟨H2,wr2,ho2,n2,w2,r2⟩:=own1_ex (lv (withK a q.id { u:=q.upto,x:=q.extra })) r1
    rw [n1] at n2
    obtain ⟨n,hn⟩:=hb.ne q hqm
    have hwl:=withK_len a q.id q.sp
    simp [L117_0,En_cons,allLen,k0,k1,k2,hp,htk,ho1,r1,n0,ho2,n2]
    simp only [List.length_cons] at hL
    have v1:IntKind.i64.wrap 1=1:=wrap64_id (by omega)
    refine r4U_loop hb hbi (by simp; omega) b' 1 _ (withK a q.id q.sp) false rfl (by simp) (by simp [En_cons]) (by simp; rfl) (by simp [v1]) (ha.with (hb.ok q hqm) hn) (hai.with ha (hbi q hqm)) (by omega) ?_
    intro st' fl h5
    simp [h5]
    rfl
end Go.Evl.Zone

namespace Go.Evl.Zone
open Go Go.Evl
variable {P:Program}
def oneS (n:Int):Sp:=uniS ⟨0,[]⟩ ⟨0,[n]⟩
theorem oneS_is {n:Int} (h1:1≤n) (h2:n≤1048576):(oneS n).ok∧∀ m,(oneS n).Has m↔m=n:=by
 obtain ⟨k1,k2⟩:=uniS_ok (nil_ok (u:=0) (by omega) (by omega)).towk (one_wk h1 h2)
 refine ⟨k1,fun m=>?_⟩
 unfold oneS
 rw [k2 m]
 constructor
 ·rintro (⟨p,q | q⟩ | ⟨p,q | q⟩)
  ·simp only at q; omega
  ·simp at q
  ·simp only at q; omega
  ·simpa using q
 ·rintro rfl
  exact .inr ⟨h1,.inr (by simp)⟩
theorem uniS_one {s:Sp} {n:Int} (hs:s.ok) (h1:1≤n) (h2:n≤1048576):uniS s (oneS n)=uniS s ⟨0,[n]⟩:=by
 obtain ⟨o1,o2⟩:=oneS_is h1 h2
 obtain ⟨k1,k2⟩:=uniS_ok hs.towk o1.towk
 obtain ⟨j1,j2⟩:=uniS_ok hs.towk (one_wk h1 h2)
 refine Sp.ext_has k1 j1 fun m=>?_
 rw [k2 m,j2 m,o2 m]
 constructor
 ·rintro (p | rfl)
  ·exact .inl p
  ·exact .inr ⟨h1,.inr (by simp)⟩
 ·rintro (p | ⟨p,q | q⟩)
  ·exact .inl p
  ·simp only at q; omega
  ·exact .inr (by simpa using q)
theorem kAdd_ans (T:TB P) {k:List KRow} {id:Bytes} {n:Int} (hk:KOK k) (hR:ans (env P) 53 [sv id]=some (bv true)) (h1:1≤n) (h2:n≤1048576) (hL:k.length+1≤most):ans (env P) 148 [lv k,sv id,iv n]=some (lv (withK k id (oneS n))):=by
 have hM:most=68719476736:=rfl
 have exl:∀ q∈k,q.extra.length≤most:=fun q hq=>by
  have:=(hk.ok q hq).len
  simp only [KRow.sp] at this
  omega
 obtain ⟨o1,o2⟩:=oneS_is h1 h2
 have ka:=spanAdd_ans (P:=P) (s:=⟨0,[]⟩) (n:=n) (nil_ok (u:=0) (by omega) (by omega)).towk h1 h2 (by simp; omega)
 refine ans_V rfl rfl ?_
 simp [c148,hR]
 refine VA_keep (g:=156) (caps:=[]) rfl rfl ?_
 simp
 refine kcopied_KC (by omega) exl fun x H1 wl1 e1 e2 e3 e4=>?_
 simp only [spV,En_nil,lv] at ka
 simp [ka]
 refine VA_keep (g:=157) (caps:=[]) rfl rfl ?_
 simp
 refine kwith_KC T (x:=x) (k:=k) (id:=id) (s:=oneS n) e1 e2 hk.srt (by omega) (spanC_ne o1 ((o2 n).2 rfl)) o1.towk (fun r hr=>⟨(hk.ok r hr).towk,by have g1:=(hk.ok r hr).len; have g2:=o1.len; simp only [KRow.sp] at g1; omega⟩) fun x' H' wl g1 g2 g3 g4=>?_
 exact g1.ln.l.expV (plainss_En _)
theorem r4Add_ans {k:List KRow} {id:Bytes} {n:Int} (hk:KOK k) (hi:IdB k) (hib:id.length≤big) (hR:ans (env P) 165 [sv id]=some (bv true)) (h1:1≤n) (h2:n≤1048576) (hL:k.length < most):ans (env P) 177 [lv k,sv id,iv n]=some (lv (withK k id (oneS n))):=by
 have hM:most=68719476736:=rfl
 obtain ⟨o1,o2⟩:=oneS_is h1 h2
 have hg:=getS_ok hk id
 have k0:=r4Of_ans (P:=P) (v:=k) (a:=id) (by omega)
 have k1:=r2Add_ans (P:=P) (s:=getS k id) (n:=n) hg (by have:=hg.len; omega)
 have ea:addR (getS k id) n=uniS (getS k id) (oneS n):=by
  rw [addR_eq hg,uniS_one hg h1 h2]
  unfold addS
  rw [if_neg (by omega)]
 rw [ea] at k1
 obtain ⟨j1,j2⟩:=uniS_ok hg.towk o1.towk
 have h3:=spanC_ne j1 ((j2 n).2 (.inr ((o2 n).2 rfl)))
 have k2:ans (env P) 100 [lv k,sv id,.agg (spV (uniS (getS k id) (oneS n)))]=some (lv (withK k id (oneS n))):=by
  rw [← withK_eq o1]
  refine rput4_ans hib hi hk.srt hL ?_
  have h5:=j1.len
  have h6:=j1.u0
  have h7:=j1.u1
  unfold spanC at h3 ⊢
  rw [wrap64_id (by omega)] at h3 ⊢
  omega
 refine ans_V rfl rfl ?_
 simp [c177,hR,k0,k1,k2]
end Go.Evl.Zone

namespace Go.Evl.Zone
open Go Go.Evl
variable {P:Program}
theorem not_has0 {n:Int}:¬ (Sp.mk 0 []).Has n:=by
 rintro ⟨p,q | q⟩
 ·simp only at q; omega
 ·simp at q
theorem kHas_ans (T:TB P) {k:List KRow} {id:Bytes} {n:Int} (hk:KOK k) (hL:k.length≤most):ans (env P) 69 [lv k,sv id,iv n]=some (bv (decide ((getS k id).Has n))):=by
 have hM:most=68719476736:=rfl
 have kf:=knowFind_ans (P:=P) T (v:=k) (a:=id) hk.srt hL
 have hg:=get_fnd cmpB_ok id hk.srt
 refine ans_V rfl rfl ?_
 cases hga:getA KRow.id k id with
 | none =>
   rw [hga] at hg
   have hfd:fnd (fun q=>cmpB q.id id) k=false:=hg
   rw [hfd] at kf
   have:getS k id=⟨0,[]⟩:=by unfold getS; rw [hga]
   simp [c69,kf,this,not_has0]
 | some q =>
   rw [hga] at hg
   have hfd:fnd (fun q=>cmpB q.id id) k=true:=hg.2
   rw [hfd] at kf
   have hq:=hg.1
   obtain ⟨hqm,hqi⟩:=get_mem hga
   have e:getS k id=q.sp:=by unfold getS; rw [hga]
   have ks:=hasS_ans (P:=P) T (n:=n) (hk.ok q hqm) (by have:=(hk.ok q hqm).len; omega)
   simp only [KRow.sp] at ks
   generalize lbN (fun q=>cmpB q.id id) k=b at *
   have hbl:b < k.length:=(List.getElem?_eq_some_iff.1 hq).1
   have hc:=En_at hq
   simp [c69,kf,e,hbl,hc,ks,KRow.sp]
   congr
theorem r4Has_ans {k:List KRow} {id:Bytes} {n:Int} (hk:KOK k) (hL:k.length≤most):ans (env P) 132 [lv k,sv id,iv n]=some (bv (decide ((getS k id).Has n))):=by
 have hM:most=68719476736:=rfl
 have hg:=getS_ok hk id
 have k0:=r4Of_ans (P:=P) (v:=k) (a:=id) hL
 have k1:=r2Has_ans (P:=P) (s:=getS k id) (n:=n) hg.x0 (by have:=hg.len; omega)
 refine ans_V rfl rfl ?_
 simp [c132,k0,k1]
theorem kOf_ans (T:TB P) {k:List KRow} {id:Bytes} (hk:KOK k) (hL:k.length≤most):ans (env P) 135 [lv k,sv id]=some (.agg (spV (getS k id))):=by
 have hM:most=68719476736:=rfl
 have c1:=fun {dst:Option Nat} {rest:List CI} {i slot slot':Nat} {log:Log} {d:Dr} {K:Ex→St→Prop} {st:St} {ks:List Fr'} {xs:List O}=>VA_prim (E:=env P) (f:=135) (g:=181) (p:=pCloneF 1) (dst:=dst) (rest:=rest) (i:=i) (slot:=slot) (slot':=slot') (log:=log) (d:=d) (K:=K) (st:=st) (ks:=ks) (xs:=xs) rfl
 have kf:=knowFind_ans (P:=P) T (v:=k) (a:=id) hk.srt hL
 have hg:=get_fnd cmpB_ok id hk.srt
 refine ans_V rfl rfl ?_
 cases hga:getA KRow.id k id with
 | none =>
   rw [hga] at hg
   have hfd:fnd (fun q=>cmpB q.id id) k=false:=hg
   rw [hfd] at kf
   have:getS k id=⟨0,[]⟩:=by unfold getS; rw [hga]
   simp [c135,kf,this]
 | some q =>
   rw [hga] at hg
   have hfd:fnd (fun q=>cmpB q.id id) k=true:=hg.2
   rw [hfd] at kf
   have hq:=hg.1
   obtain ⟨hqm,hqi⟩:=get_mem hga
   have e:getS k id=q.sp:=by unfold getS; rw [hga]
   have hql:=(hk.ok q hqm).len
   simp only [KRow.sp] at hql
   generalize lbN (fun q=>cmpB q.id id) k=b at *
   have hbl:b < k.length:=(List.getElem?_eq_some_iff.1 hq).1
   have hc:=En_at hq
   have hp:=plainss_En q.extra
   have htk:List.take q.extra.length (En q.extra)=En q.extra:=by have:=List.take_length (l:=En q.extra); simpa using this
   have z1:∀ H,pCloneF 1 [.im (En q.extra) false] H=some ⟨.im (En q.extra) false,H,[],some []⟩:=fun H=>cloneF_ok (allLen_I _) (by simp; omega) (plainss_En _)
   simp [c135,kf,e,hbl,hc,KRow.sp,c1,z1]
end Go.Evl.Zone

namespace Go.Evl.Zone
open Go Go.Evl
variable {P:Program}
structure VOK (v:List At):Prop where
 srt:Srt cmpB At.id v
 lo:∀ q∈v,1≤q.n
 hi:∀ q∈v,q.n≤1048576
theorem VOK.nil:VOK []:=⟨List.Pairwise.nil,by simp,by simp⟩
def setV (v:List At) (id:Bytes) (n:Int):List At:=putA cmpB At.id ⟨id,max (ofV v id) n⟩ v
theorem ofV_range {v:List At} (h:VOK v) (id:Bytes):0≤ofV v id∧ofV v id≤1048576:=by
 unfold ofV
 cases hg:getA At.id v id with
 | none=>simp
 | some q =>
   have h1:=h.lo q (get_mem hg).1
   have h2:=h.hi q (get_mem hg).1
   simp only
   omega
theorem VOK.set {v:List At} (h:VOK v) {id:Bytes} {n:Int} (h1:1≤n) (h2:n≤1048576):VOK (setV v id n):=by
 have hr:=ofV_range h id
 have key:∀ q∈setV v id n,1≤q.n∧q.n≤1048576:=fun q hq=>by
  unfold setV at hq
  rcases (mem_put cmpB_ok h.srt).1 hq with rfl | ⟨hm,_⟩
  ·simp only; omega
  ·exact ⟨h.lo q hm,h.hi q hm⟩
 exact ⟨srt_put cmpB_ok h.srt,fun q hq=>(key q hq).1,fun q hq=>(key q hq).2⟩
theorem setV_len (v:List At) (id:Bytes) (n:Int):(setV v id n).length≤v.length+1:=putA_len _ _
theorem vSet_ans (T:TB P) {v:List At} {id:Bytes} {n:Int} (hv:VOK v) (hR:ans (env P) 53 [sv id]=some (bv true)) (h1:1≤n) (h2:n≤1048576) (hL:v.length+1≤most):ans (env P) 144 [lv v,sv id,iv n]=some (lv (setV v id n)):=by
 have hM:most=68719476736:=rfl
 have c1:=fun {dst:Option Nat} {rest:List CI} {i slot slot':Nat} {log:Log} {d:Dr} {K:Ex→St→Prop} {st:St} {ks:List Fr'} {xs:List O}=>VA_prim (E:=env P) (f:=144) (g:=149) (p:=pClone 2) (dst:=dst) (rest:=rest) (i:=i) (slot:=slot) (slot':=slot') (log:=log) (d:=d) (K:=K) (st:=st) (ks:=ks) (xs:=xs) rfl
 have c2:=fun {dst:Option Nat} {rest:List CI} {i slot slot':Nat} {log:Log} {d:Dr} {K:Ex→St→Prop} {st:St} {ks:List Fr'} {xs:List O}=>VA_prim (E:=env P) (f:=144) (g:=192) (p:=pIns 2) (dst:=dst) (rest:=rest) (i:=i) (slot:=slot) (slot':=slot') (log:=log) (d:=d) (K:=K) (st:=st) (ks:=ks) (xs:=xs) rfl
 have kf:=vecFind_ans (P:=P) T (v:=v) (a:=id) hv.srt (by omega)
 have hg:=get_fnd cmpB_ok id hv.srt
 have hp:=plainss_En v
 have htk:List.take v.length (En v)=En v:=by have:=List.take_length (l:=En v); simpa using this
 have hmin:min n 1048576=n:=by omega
 have hmn:∀ (t:TypeId) (ts:Array TypeId),evFun P .min ts t [.int .i64 n,.int .i64 1048576]=some (iv n):=fun t ts=>by rw [minI,hmin]
 have hn1:¬ n < 1:=by omega
 refine ans_V rfl rfl ?_
 by_cases h0:v=[]
 ·subst h0
  have kf0:ans (env P) 167 [.im [] false,sv id]=some (.tup [iv 0,bv false]):=kf
  have hw:setV [] id n=[⟨id,n⟩]:=by simp [setV,putA,ofV,getA]; omega
  simp [c144,c1,c2,pClone,isStr,elems,allLen,hR,hn1,hmn,kf0,pIns,chunks]
  rw [hw]
  exact ⟨[1],rfl⟩
 ·have hl:¬ v.length=0:=fun e=>h0 (List.length_eq_zero_iff.1 e)
  have hm:v.length≤most:=by omega
  cases hga:getA At.id v id with
  | none =>
    rw [hga] at hg
    have hfd:fnd (fun q=>cmpB q.id id) v=false:=hg
    rw [hfd] at kf
    have hble:=lbN_le (c:=fun q:At=>cmpB q.id id) v
    have h:=put_at (cmp:=cmpB) (key:=At.id) (⟨id,n⟩:At) v
    have hf2:fnd (fun a:At=>cmpB a.id (⟨id,n⟩:At).id) v=false:=hfd
    rw [hf2] at h
    simp only [Bool.false_eq_true,if_false] at h
    have ho:max (ofV v id) n=n:=by unfold ofV; rw [hga]; simp only; omega
    have hw:setV v id n=v.take (lbN (fun q=>cmpB q.id id) v)++(⟨id,n⟩:At)::v.drop (lbN (fun q=>cmpB q.id id) v):=by
     unfold setV
     rw [ho]
     exact h
    clear h hf2
    generalize lbN (fun q=>cmpB q.id id) v=b at *
    have hble':(b:Int)≤(v.length:Int):=by omega
    have hE:List.take b (En v)++[sv id,iv n]::List.drop b (En v)=En (setV v id n):=by rw [hw,En_take,En_drop,En_append,En_cons]; rfl
    have hEl:(setV v id n).length=v.length+1:=by rw [hw]; simp; omega
    have hp2:=plainss_En (setV v id n)
    have htk2:List.take (v.length+1) (En (setV v id n))=En (setV v id n):=List.take_of_length_le (by simp [hEl])
    simp [c144,c1,c2,pClone,isStr,elems,h0,hm,hR,hn1,hmn,kf,chunks,hp,htk]
    simp [pIns,hble,hble',hL,hE,hEl,hp2,htk2]
  | some q =>
    rw [hga] at hg
    have hfd:fnd (fun q=>cmpB q.id id) v=true:=hg.2
    rw [hfd] at kf
    obtain ⟨hqm,hqi⟩:=get_mem hga
    have hq:=hg.1
    have ho:ofV v id=q.n:=by unfold ofV; rw [hga]
    have h:=put_at (cmp:=cmpB) (key:=At.id) (⟨id,max q.n n⟩:At) v
    have hf2:fnd (fun a:At=>cmpB a.id (⟨id,max q.n n⟩:At).id) v=true:=hfd
    rw [hf2] at h
    simp only [if_true] at h
    have hw:setV v id n=v.set (lbN (fun q=>cmpB q.id id) v) ⟨id,max q.n n⟩:=by
     unfold setV
     rw [ho]
     exact h
    clear h hf2
    generalize lbN (fun q=>cmpB q.id id) v=b at *
    have hbl:b < v.length:=(List.getElem?_eq_some_iff.1 hq).1
    have hx:(En v)[b]?=some (Enc.c q):=En_at? hq
    have l1:loadR (.row 2 (En v) true) 0 2 v.length b 1 1=some ([iv q.n],[0]):=by
     rw [loadR_row ⟨rfl,by simp⟩,hx]
     rfl
    have hmx:∀ (t:TypeId) (ts:Array TypeId),evFun P .max ts t [.int .i64 q.n,.int .i64 n]=some (iv (max q.n n)):=fun t ts=>maxI
    have hset:(En v).set b (Enc.c (⟨id,max q.n n⟩:At))=En (setV v id n):=by rw [hw]; simp [En,List.map_set]
    have s1:∀ H:Heap,storeR H (.row 2 (En v) true) 0 2 v.length b 1 [iv (max q.n n)]=some (H.put 0 (.row 2 (En (setV v id n)) true),0):=fun H=>by
     unfold storeR
     simp only [toRow,ob_some]
     rw [if_pos ⟨trivial,trivial,by simp⟩,hx,ob_some,if_pos (by simp),← hset]
     have:setL (Enc.c q) 1 [iv (max q.n n)]=Enc.c (⟨id,max q.n n⟩:At):=by rw [← hqi]; rfl
     rw [this]
    have hEl:(setV v id n).length=v.length:=by rw [hw]; simp
    have hp2:=plainss_En (setV v id n)
    have htk2:List.take v.length (En (setV v id n))=En (setV v id n):=List.take_of_length_le (by simp [hEl])
    simp [c144,c1,c2,pClone,isStr,elems,h0,hm,hR,hn1,hmn,kf,chunks,hp,htk,hbl,l1,hmx,s1,hEl,hp2,htk2]
end Go.Evl.Zone

namespace Go.Evl.Zone
open Go Go.Evl
variable {P:Program}
theorem r3Of_loop {v:List At} {a:Bytes} {ks:List Fr'} {K:Ex→St→Prop} (hL:v.length≤most):∀ (rest:List At) (i:Nat) (st:St),v.drop i=rest→i≤v.length→st.σ 0=lv v→st.σ 1=sv a→st.σ 5=iv i →
  (∀ st' q,getA At.id rest a=some q→st'.σ 4=iv q.n→K .ret st')→(∀ st',getA At.id rest a=none→VN (env P) 119 st' ks K)→V (env P) 119 (.loop L119_0) st (.blk 0::ks) K
 | [],i,st,hr,hile,h0,h1,h5,hret,hend=>by
   obtain ⟨hii,hlt,hd⟩:=drop_nil hr hile
   rw [V_loop]
   simp [L119_0,h0,h5,hlt]
   exact hend _ rfl
 | q::rest,i,st,hr,hile,h0,h1,h5,hret,hend=>by
   obtain ⟨hq,hlt,hr',_⟩:=drop_cons hr
   have hc:=En_at hq
   have hw:=wrapS (i:=i) (by unfold most at hL; omega)
   rw [V_loop]
   by_cases e:q.id=a
   ·have hs:=fun t cx cy=>evBin_seql (P:=P) (t:=t) (cx:=cx) (cy:=cy) a a
    simp only [decide_true] at hs
    simp [L119_0,h0,h1,h5,hlt,hc,hw,hs,e]
    exact hret _ q (by simp [getA,e]) (by simp)
   ·have hs:=fun t cx cy=>evBin_seql (P:=P) (t:=t) (cx:=cx) (cy:=cy) q.id a
    simp only [e,decide_false] at hs
    simp [L119_0,h0,h1,h5,hlt,hc,hw,hs,e]
    exact r3Of_loop (a:=a) hL rest (i+1) _ hr' (by omega) (by simp [h0]) (by simp [h1]) (by simp) (fun st' p h=>hret st' p (by simpa [getA,e] using h)) (fun st' h=>hend st' (by simpa [getA,e] using h))
theorem r3Of_ans {v:List At} {a:Bytes} (hL:v.length≤most):ans (env P) 119 [lv v,sv a]=some (iv (ofV v a)):=by
 refine ans_V rfl rfl ?_
 simp [c119]
 refine r3Of_loop (a:=a) hL v 0 _ rfl (by omega) (by simp) (by simp) (by simp) ?_ ?_
 ·intro st' q hg h4
  simp [h4,ofV,hg]
 ·intro st' hg
  simp [ofV,hg]
theorem rdropV_loop {v:List At} {a:Bytes} {N:Nat} {ks:List Fr'} {K:Ex→St→Prop} (hL:v.length≤most):∀ (rest:List At) (i:Nat) (st:St) (x:PV) (L:List At),v.drop i=rest→i≤v.length→st.σ 0=lv v→st.σ 1=sv a→st.σ 6=iv i→st.σ 5=x→LN N st.h 2 x (En L)→L.length≤i→N≤st.h.n→(∀ j∈st.wl,N≤j) →
  (∀ st' x,st'.σ 5=x→LN N st'.h 2 x (En (L++rest.filter fun q=>decide (q.id≠a)))→N≤st'.h.n→(∀ j,j < N→st'.h.at_ j=st.h.at_ j)→(∀ j∈st'.wl,N≤j)→VN (env P) 120 st' ks K)→V (env P) 120 (.loop L120_0) st (.blk 0::ks) K
 | [],i,st,x,L,hr,hile,h0,h1,h6,h5,hl,hle,hN,hw,hend=>by
   obtain ⟨hii,hlt,hd⟩:=drop_nil hr hile
   rw [V_loop]
   simp [L120_0,h0,h6,hlt]
   exact hend _ x (by simp [h5]) (by simpa using hl.grow) (by simpa using hN) (fun j hj=>by simp [show j < st.h.n by omega]) hw
 | q::rest,i,st,x,L,hr,hile,h0,h1,h6,h5,hl,hle,hN,hw,hend=>by
   obtain ⟨hq,hlt,hr',ht⟩:=drop_cons hr
   have hc:=En_at hq
   have hwi:=wrapS (i:=i) (by unfold most at hL; omega)
   have hn:=fun t cx cy=>evBin_sneq (P:=P) (t:=t) (cx:=cx) (cy:=cy) q.id a
   rw [V_loop]
   by_cases hqa:q.id=a
   ·have hn:=fun t cx cy=>evBin_sneq (P:=P) (t:=t) (cx:=cx) (cy:=cy) a a
    simp only [ne_eq,not_true_eq_false,decide_false] at hn
    simp [L120_0,h0,h1,h6,hlt,hc,hn,hwi,hqa]
    refine rdropV_loop (a:=a) hL rest (i+1) _ x L hr' (by omega) (by simp [h0]) (by simp [h1]) (by simp) (by simp [h5]) (by repeat (first | exact hl | refine LN.grow ?_)) (by omega) (by simpa using hN) hw fun st' x e1 e2 e3 e4 e5=>hend st' x e1 (by simpa [hqa] using e2) e3 (fun j hj=>by rw [e4 j hj]; simp [show j < st.h.n by omega]) e5
   ·simp [L120_0,h0,h1,h6,h5,hlt,hc,hn,hwi,hqa,chunks,elems,allLen]
    refine VP_appN (N:=N) (ys:=En L) (by repeat (first | exact hl | refine LN.grow ?_)) (by simp) (by simp) hN (by simp [allLen]) (by simp; omega) fun v' H' wr rd e2 e3 _ e5 e6=>?_
    simp [h6,hwi,e3]
    refine rdropV_loop (a:=a) hL rest (i+1) _ v' (L++[q]) hr' (by omega) (by simp [h0]) (by simp [h1]) (by simp) (by simp) ?_ (by simp; omega) (by simp [e3]; omega) (fun j hj=>(List.mem_append.1 hj).elim (e6 j) (hw j)) fun st' x g1 g2 g3 g4 g5=>hend st' x g1 (by simpa [hqa] using g2) g3 (fun j hj=>by rw [g4 j hj]; simp [e3,show j < st.h.n+1 by omega,e5 j hj,show j < st.h.n by omega]) g5
    rw [En_append,En_one]
    repeat (first | exact e2 | refine LN.grow ?_)
theorem rdropV_KC {H:Heap} {v:List At} {a:Bytes} {K:PV→Heap→List Nat→Prop} (hL:v.length≤most) (hK:∀ x H' wl,LN H.n H' 2 x (En (v.filter fun q=>decide (q.id≠a)))→H.n≤H'.n→(∀ j,j < H.n→H'.at_ j=H.at_ j)→(∀ j∈wl,H.n≤j)→K x H' wl):KC (env P) 120 [lv v,sv a] H K:=by
 refine KC_of (cf:=c120) (fun _=>rfl) rfl ?_
 simp [c120]
 refine rdropV_loop (a:=a) (N:=H.n) hL v 0 _ (.im [] true) [] rfl (by omega) (by simp) (by simp) (by simp) (by simp) LN.nil (by simp) (by simp) (by simp) fun st' x e1 e2 e3 e4 e5=>?_
 simp [e1,resV,resP]
 have E:=keepH (h:=st'.h) (H:=H) (n:=st'.h.n) rfl
 refine hK x _ _ (ln_sameG e2 E) (Nat.le_trans e3 (Nat.le_of_eq E.1.symm)) (fun j hj=>(E.2 j (by omega)).trans (by rw [e4 j hj]; simp [hj])) e5
theorem rputV_loop {ks:List Fr'} {K:Ex→St→Prop} {x:At} (hx:x.id.length≤big):∀ (L1 L2:List At) (st:St) (w:PV) (r:Nat) (xs:List (List PV)),(∀ q∈L1,q.id.length≤big∧q.id≠x.id)→L1.length+L2.length+1≤most→st.σ 7=w→Rw st.h 2 w (En (L1++x::L2)) r xs→st.σ 8=iv L1.length→(∀ z,L2.head?=some z→cmpB x.id z.id < 0) →
  (∀ st' L1' L2' w' r' xs',L1'++L2'=L1++L2→(∀ y,lastP none L1'=some y→cmpB y.id x.id < 0)→(∀ z,L2'.head?=some z→cmpB x.id z.id < 0)→st'.σ 7=w'→Rw st'.h 2 w' (En (L1'++x::L2')) r' xs'→VN (env P) 103 st' ks K)→V (env P) 103 (.loop L103_0) st (.blk 0::ks) K:=by
 intro L1
 generalize hn:L1.length=n
 induction n generalizing L1 with
 | zero =>
   intro L2 st w r xs hids hm hl hR hi h2 hend
   obtain rfl:L1=[]:=List.length_eq_zero_iff.1 hn
   rw [V_loop]
   simp [L103_0,hl,hi]
   exact hend _ [] L2 w r xs rfl (by simp [lastP]) h2 (by simp [hl]) hR.grow
 | succ n ih =>
   intro L2 st w r xs hids hm hl hR hi h2 hend
   obtain ⟨L1,y,rfl⟩:∃ L y,L1=L++[y]:=by
    rcases List.eq_nil_or_concat L1 with h | ⟨L,y,h⟩
    ·rw [h] at hn; simp at hn
    ·exact ⟨L,y,by simpa using h⟩
   have hn':L1.length=n:=by simpa using hn
   have hy:=hids y (by simp)
   have hk:=r1Compare_ans (P:=P) (s:=y.id) (t:=x.id) hy.1 hx
   have hv:=hR.v
   have hb:=hR.b
   have hlt:=hR.lt
   have hle:=hR.le
   have eq:=hR.eq
   simp only [En_length,List.length_append,List.length_cons,List.length_nil] at hle eq
   have ix:∀ (j:Nat) (q:At),((L1++[y])++x::L2)[j]?=some q→xs[j]?=some (Enc.c q):=fun j q hq=>by
    have h1:(En ((L1++[y])++x::L2))[j]?=some (Enc.c q):=En_at? hq
    rw [← hR.eq,List.getElem?_take] at h1
    split at h1
    ·exact h1
    ·cases h1
   have iy:=ix n y (by simp [← hn'])
   have ixx:=ix (n+1) x (by simp [← hn'])
   have hm':=hm
   unfold most at hm'
   have wn:IntKind.i64.wrap (n:Int)=(n:Int):=wrap64_id (by simp at hm'; omega)
   have b0:(n:Int) < (n:Int)+((L2.length:Int)+1+1):=by omega
   have b1:(n:Int)+1 < (n:Int)+((L2.length:Int)+1+1):=by omega
   have b2:(0:Int)≤(n:Int)+1:=by omega
   have b3:((n:Int)+1).toNat=n+1:=by omega
   have b4:n < n+(L2.length+1+1):=by omega
   have b5:n+1 < n+(L2.length+1+1):=by omega
   have hi':st.σ 8=iv ((n:Int)+1):=by rw [hi]; rfl
   have lx:n < xs.length:=by omega
   have lx1:n+1 < xs.length:=by omega
   rw [V_loop]
   have iy2:(xs.set n (Enc.c x))[n+1]?=some (Enc.c x):=by rw [List.getElem?_set_ne (by omega)]; exact ixx
   have s1:∀ H,storeR H (.row 2 xs true) r 2 xs.length n 0 (Enc.c x)=some (H.put r (.row 2 (xs.set n (Enc.c x)) true),r):=fun H=>storeRG rfl iy rfl rfl
   have s2:∀ H,storeR H (.row 2 (xs.set n (Enc.c x)) true) r 2 xs.length (n+1) 0 (Enc.c y)=some (H.put r (.row 2 ((xs.set n (Enc.c x)).set (n+1) (Enc.c y)) true),r):=fun H=>storeRG (by simp) iy2 rfl rfl
   simp only [Enc.c] at s1 s2
   by_cases hc:0 < cmpB y.id x.id
   ·simp [L103_0,hl,hv,hi',hk,hb,hlt,hn',wn,b0,b1,b2,b3,b4,b5,iy,ixx,hc,loadR_row,s1,s2]
    refine ih L1 hn' (y::L2) _ w r _ (fun q hq=>hids q (by simp [hq])) (by simp at hm ⊢; omega) (by simp [hl,hv,hn']) (Rw.grow (m:=0) (ys:=En (L1++x::y::L2)) (xs:=(xs.set n (Enc.c x)).set (n+1) (Enc.c y)) ?_) (by simp [hn']) (fun z hz=>?_) fun st' L1' L2' w' r' xs' e1=>hend st' L1' L2' w' r' xs' (by simpa using e1)
    ·have R1:=(hR.grow (m:=0)).set (i:=n) (y:=Enc.c x) rfl
     have R2:=R1.set (i:=n+1) (y:=Enc.c y) rfl
     rw [show En (L1++x::y::L2)=((En ((L1++[y])++x::L2)).set n (Enc.c x)).set (n+1) (Enc.c y) by
      rw [← hn']
      simp [En_append,En_cons,En_length]]
     exact R2
    ·obtain rfl:y=z:=by simpa using hz
     exact cmp_anti _ _ hc
   ·simp [L103_0,hl,hv,hi',hk,hb,hlt,hn',wn,b0,b1,b2,b3,b4,b5,iy,ixx,hc,loadR_row]
    refine hend _ (L1++[y]) L2 w r xs rfl (fun z hz=>?_) h2 (by simp [hl,hv,hn']) (by repeat (first | exact hR | refine Rw.grow ?_))
    rw [lastP_some] at hz
    obtain rfl:y=z:=by simpa using hz
    have h3:cmpB y.id x.id≠0:=fun h=>hy.2 (cmp_zero y.id x.id h)
    omega
theorem rputV_ans {v:List At} {a:Bytes} {n:Int} (ha:a.length≤big) (hi:∀ q∈v,q.id.length≤big) (hv:Srt cmpB At.id v) (hL:v.length < most) (hn:1≤n):ans (env P) 103 [lv v,sv a,iv n]=some (lv (putA cmpB At.id ⟨a,n⟩ v)):=by
 have hn1:¬ n < 1:=by omega
 refine ans_V rfl rfl ?_
 simp [c103]
 refine VA_keep (g:=120) (caps:=[]) rfl rfl ?_
 simp
 refine rdropV_KC (by omega) fun x H' wl d1 d2 d3 d4=>?_
 simp [hn1,chunks,elems,allLen]
 obtain ⟨F,hF⟩:∃ F,F=v.filter (fun q=>decide (q.id≠a)):=⟨_,rfl⟩
 rw [← hF] at d1
 have hFl:F.length≤v.length:=by rw [hF]; exact List.length_filter_le _ _
 have hFi:∀ q∈F,q.id.length≤big∧q.id≠a:=fun q hq=>by
  rw [hF] at hq
  have:=List.mem_filter.1 hq
  exact ⟨hi q this.1,by simpa using this.2⟩
 refine VP_appR (ys:=En F) (by repeat (first | exact d1.l | refine Lst.grow ?_)) (by simp) (by simp) (by simp [allLen]) (by simp) (by simp; omega) fun v' H2 wr rd r xs e2 e3 _=>?_
 have e2':Rw H2 2 v' (En (F++⟨a,n⟩::[])) r xs:=by rw [En_append,En_one]; exact e2
 have hle:lenP false v'=some (F.length+1):=by rw [e2'.lst.len]; simp
 have hFm:F.length < 68719476736:=by
  have:most=68719476736:=rfl
  omega
 have wF:IntKind.i64.wrap (F.length:Int)=(F.length:Int):=wrap64_id (by omega)
 simp [e3,hle,wF]
 refine rputV_loop (x:=⟨a,n⟩) ha F [] _ v' r xs hFi (by simp; unfold most; omega) (by simp) (by repeat (first | exact e2' | refine Rw.grow ?_)) (by simp) (by simp) fun st' L1 L2 w' r' xs' u1 u2 u3 u4 u5=>?_
 have hput:=put_of cmpB_ok (x:=(⟨a,n⟩:At)) hv (L1:=L1) (L2:=L2) (by rw [u1,List.append_nil,hF]) u2 u3
 rw [hput] at u5
 obtain ⟨is,hx⟩:=(Rw.grow (m:=0) u5).lst.expV (plainss_En _)
 simp [u4]
 exact ⟨is,hx⟩
theorem r3Set_ans {v:List At} {id:Bytes} {n:Int} (hv:VOK v) (hi:∀ q∈v,q.id.length≤big) (hib:id.length≤big) (hR:ans (env P) 165 [sv id]=some (bv true)) (h1:1≤n) (h2:n≤1048576) (hL:v.length < most):ans (env P) 180 [lv v,sv id,iv n]=some (lv (setV v id n)):=by
 have k0:=r3Of_ans (P:=P) (v:=v) (a:=id) (by omega)
 have hr:=ofV_range hv id
 have k1:=rputV_ans (P:=P) (n:=max (ofV v id) n) hib hi hv.srt hL (by omega)
 have hmn:∀ (t:TypeId) (ts:Array TypeId),evFun P .min ts t [.int .i64 n,.int .i64 1048576]=some (iv n):=fun t ts=>by rw [minI,show min n 1048576=n by omega]
 have hmx:∀ (t:TypeId) (ts:Array TypeId),evFun P .max ts t [.int .i64 (ofV v id),.int .i64 n]=some (iv (max (ofV v id) n)):=fun t ts=>maxI
 refine ans_V rfl rfl ?_
 simp [c180,hR,show ¬ n < 1 by omega,k0,k1,hmn,hmx]
 rfl
end Go.Evl.Zone

namespace Go.Evl.Zone
open Go Go.Evl
variable {P:Program}
def joinV (a b:List At):List At:=b.foldl (fun v q=>setV v q.id q.n) a
def IdV (v:List At):Prop:=∀ q∈v,q.id.length≤big
theorem IdV.set {v:List At} (hv:VOK v) (h:IdV v) {id:Bytes} {n:Int} (hi:id.length≤big):IdV (setV v id n):=fun q hq=>by
 unfold setV at hq
 rcases (mem_put cmpB_ok hv.srt).1 hq with rfl | ⟨hm,_⟩
 ·exact hi
 ·exact h q hm
theorem r3J_loop {b:List At} (hb:VOK b) (hbi:IdV b) {ks:List Fr'} {K:Ex→St→Prop} (hLb:b.length≤most):∀ (rest:List At) (i:Nat) (st:St) (v:List At) (fl:Bool),b.drop i=rest→i≤b.length→st.σ 1=lv b→st.σ 5 = .im (En v) fl→st.σ 6=iv i→VOK v→IdV v→v.length+rest.length < most →
  (∀ st' fl,st'.σ 5 = .im (En (joinV v rest)) fl→VN (env P) 122 st' ks K)→V (env P) 122 (.loop L122_0) st (.blk 0::ks) K
 | [],i,st,v,fl,hr,hile,h1,h5,h6,hk,hi,hm,hend=>by
   obtain ⟨hii,hlt,hd⟩:=drop_nil hr hile
   rw [V_loop]
   simp [L122_0,h1,h6,hlt]
   exact hend _ fl (by simp [h5,joinV])
 | q::rest,i,st,v,fl,hr,hile,h1,h5,h6,hk,hi,hm,hend=>by
   obtain ⟨hq,hlt,hr',_⟩:=drop_cons hr
   have hqm:=List.mem_of_getElem? hq
   have hc:=En_at hq
   have hw:=wrapS (i:=i) (by unfold most at hLb; omega)
   simp only [List.length_cons] at hm
   have k0:=r3Of_ans (P:=P) (v:=v) (a:=q.id) (by omega)
   have hl:=hb.lo q hqm
   have hr2:=ofV_range hk q.id
   have k1:=rputV_ans (P:=P) (n:=max (ofV v q.id) q.n) (hbi q hqm) hi hk.srt (by omega) (by omega)
   rw [show putA cmpB At.id ⟨q.id,max (ofV v q.id) q.n⟩ v=setV v q.id q.n from rfl] at k1
   have hmx:∀ (t:TypeId) (ts:Array TypeId),evFun P .max ts t [.int .i64 (ofV v q.id),.int .i64 q.n]=some (iv (max (ofV v q.id) q.n)):=fun t ts=>maxI
   have hwl:=setV_len v q.id q.n
   rw [V_loop]
   simp [L122_0,h1,h5,h6,hlt,hc,hw,k0,k1,hmx]
   exact r3J_loop hb hbi hLb rest (i+1) _ (setV v q.id q.n) false hr' (by omega) (by simp [h1]) (by simp) (by simp) (hk.set hl (hb.hi q hqm)) (hi.set hk (hbi q hqm)) (by omega) hend
theorem r3Join_ans {a b:List At} (ha:VOK a) (hai:IdV a) (hb:VOK b) (hbi:IdV b) (hL:a.length+b.length < most):ans (env P) 122 [lv a,lv b]=some (lv (joinV a b)):=by
 have hM:most=68719476736:=rfl
 have hp:=plainss_En a
 have htk:List.take a.length (En a)=En a:=by have:=List.take_length (l:=En a); simpa using this
 refine ans_V rfl rfl ?_
 simp [c122,chunks,elems,allLen,htk]
 by_cases h0:a=[]
 ·subst h0
  have e1:appendP (Heap.empty.grow 1) 0 2 (.im [] true) []=some (.im [] true,Heap.empty.grow 1,[],[]):=rfl
  simp [e1]
  refine r3J_loop hb hbi (by omega) b 0 _ [] true rfl (by omega) (by simp) (by simp) (by simp) VOK.nil (by intro q hq; cases hq) (by simpa using hL) ?_
  intro st' fl h5
  simp [h5]
 ·have hl:¬ (En a).length=0:=by simpa using h0
  have e1:appendP (Heap.empty.grow 1) 0 2 (.im [] true) (En a)=some (.sl 0 2 (En a).length 0 (En a).length,(Heap.empty.grow 1).put 0 (.row 2 (En a) true),[0],[]):=by
   unfold appendP
   rw [if_neg hl]
   simp only [List.length_nil,Nat.zero_add,List.nil_append]
   rw [if_pos ⟨rfl,by simp; omega⟩]
  simp [e1]
  cases b with
  | nil =>
    rw [V_loop]
    simp [L122_0,hp,htk]
    rfl
  | cons q b' =>
    have hqm:q∈q::b':=by simp
    have hl1:=hb.lo q hqm
    have hr2:=ofV_range ha q.id
    have k0:=r3Of_ans (P:=P) (v:=a) (a:=q.id) (by omega)
    have k1:=rputV_ans (P:=P) (n:=max (ofV a q.id) q.n) (hbi q hqm) hai ha.srt (by omega) (by omega)
    rw [show putA cmpB At.id ⟨q.id,max (ofV a q.id) q.n⟩ a=setV a q.id q.n from rfl] at k1
    have hmx:∀ (t:TypeId) (ts:Array TypeId),evFun P .max ts t [.int .i64 (ofV a q.id),.int .i64 q.n]=some (iv (max (ofV a q.id) q.n)):=fun t ts=>maxI
    obtain ⟨H1,wr1,ho1,n1,w1,r1⟩:=own1_ex (H:=((Heap.empty.grow 1).put 0 (.row 2 (En a) true)).grow 0) (r:=0) (k:=2) (xs:=En a) (w:=true) (lv (setV a q.id q.n)) (by simp)
    simp at n1
    have hwl:=setV_len a q.id q.n
    rw [V_loop]
    simp [L122_0,En_cons,allLen,k0,k1,hmx,hp,htk,ho1,n1]
    simp only [List.length_cons] at hL
    have v1:IntKind.i64.wrap 1=1:=wrap64_id (by omega)
    refine r3J_loop hb hbi (by simp; omega) b' 1 _ (setV a q.id q.n) false rfl (by simp) (by simp [En_cons]) (by simp) (by simp [v1]) (ha.set hl1 (hb.hi q hqm)) (hai.set ha (hbi q hqm)) (by omega) ?_
    intro st' fl h5
    simp [h5]
    rfl
end Go.Evl.Zone

namespace Go.Evl.Zone
open Go Go.Evl
variable {P:Program}
theorem pJ_loop (T:TB P) {b:List At} (hb:VOK b) (hR:∀ q∈b,ans (env P) 53 [sv q.id]=some (bv true)) {ks:List Fr'} {K:Ex→St→Prop} (hLb:b.length≤most):∀ (rest:List At) (i:Nat) (st:St) (v:List At) (fl:Bool),b.drop i=rest→i≤b.length→st.σ 10=lv b→st.σ 11=iv b.length→st.σ 5 = .im (En v) fl→st.σ 12=iv i→VOK v→v.length+rest.length < most →
  (∀ st' fl,st'.σ 5 = .im (En (joinV v rest)) fl→VN (env P) 153 st' ks K)→V (env P) 153 (.loop L153_0) st (.blk 0::ks) K
 | [],i,st,v,fl,hr,hile,h10,h11,h5,h12,hk,hm,hend=>by
   obtain ⟨hii,hlt,hd⟩:=drop_nil hr hile
   rw [V_loop]
   simp [L153_0,h11,h12,hlt]
   exact hend _ fl (by simp [h5,joinV])
 | q::rest,i,st,v,fl,hr,hile,h10,h11,h5,h12,hk,hm,hend=>by
   obtain ⟨hq,hlt,hr',_⟩:=drop_cons hr
   have hqm:=List.mem_of_getElem? hq
   have hc:=En_at hq
   have hw:=wrapS (i:=i) (by unfold most at hLb; omega)
   simp only [List.length_cons] at hm
   have k1:=vSet_ans (P:=P) T hk (hR q hqm) (hb.lo q hqm) (hb.hi q hqm) (by omega)
   have hwl:=setV_len v q.id q.n
   rw [V_loop]
   simp [L153_0,h10,h11,h5,h12,hlt,hc,hw,k1]
   exact pJ_loop T hb hR hLb rest (i+1) _ (setV v q.id q.n) false hr' (by omega) (by simp [h10]) (by simp [h11]) (by simp) (by simp) (hk.set (hb.lo q hqm) (hb.hi q hqm)) (by omega) hend
theorem vJoin_ans (T:TB P) {a b:List At} (ha:VOK a) (hb:VOK b) (hR:∀ q∈b,ans (env P) 53 [sv q.id]=some (bv true)) (hL:a.length+b.length < most):ans (env P) 153 [lv a,lv b]=some (lv (joinV a b)):=by
 have hM:most=68719476736:=rfl
 have c1:=fun {dst:Option Nat} {rest:List CI} {i slot slot':Nat} {log:Log} {d:Dr} {K:Ex→St→Prop} {st:St} {ks:List Fr'} {xs:List O}=>VA_prim (E:=env P) (f:=153) (g:=149) (p:=pClone 2) (dst:=dst) (rest:=rest) (i:=i) (slot:=slot) (slot':=slot') (log:=log) (d:=d) (K:=K) (st:=st) (ks:=ks) (xs:=xs) rfl
 have hp:=plainss_En a
 have htk:List.take a.length (En a)=En a:=by have:=List.take_length (l:=En a); simpa using this
 refine ans_V rfl rfl ?_
 by_cases h0:a=[]
 ·subst h0
  simp [c153,c1,pClone,isStr,elems,allLen]
  refine pJ_loop T hb hR (by omega) b 0 _ [] true rfl (by omega) (by simp) (by simp) (by simp) (by simp) VOK.nil (by simpa using hL) ?_
  intro st' fl h5
  simp [h5]
 ·have hl:¬ a.length=0:=fun e=>h0 (List.length_eq_zero_iff.1 e)
  have hm:a.length≤most:=by omega
  simp [c153,c1,pClone,isStr,elems,h0,hm]
  cases b with
  | nil =>
    rw [V_loop]
    simp [L153_0,hp,htk]
    rfl
  | cons q b' =>
    have hqm:q∈q::b':=by simp
    have k1:=vSet_ans (P:=P) T ha (hR q hqm) (hb.lo q hqm) (hb.hi q hqm) (by omega)
    have hwl:=setV_len a q.id q.n
    have v1:IntKind.i64.wrap 1=1:=wrap64_id (by omega)
    rw [V_loop]
    simp [L153_0,En_cons,allLen,k1,hp,htk]
    simp only [List.length_cons] at hL
    refine pJ_loop T hb hR (by simp; omega) b' 1 _ (setV a q.id q.n) false rfl (by simp) (by simp [En_cons]) (by simp) (by simp [own1_v]) (by simp [v1]) (ha.set (hb.lo q hqm) (hb.hi q hqm)) (by omega) ?_
    intro st' fl h5
    simp [h5]
    rfl
end Go.Evl.Zone

namespace Go.Evl.Zone
open Go Go.Evl
variable {P:Program}
theorem mcopied_loop {v:List MRow} {r N:Nat} (hL:v.length≤most) (hE:∀ q∈v,q.vec.length≤most) {ks:List Fr'} {K:Ex→St→Prop}:∀ (rest:List MRow) (i:Nat) (st:St),v.drop i=rest→i≤v.length→st.σ 3 = .sl r 2 v.length 0 v.length→st.σ 8=iv v.length→st.σ 9=iv i→st.h.at_ r = .row 2 (En v) true→r < st.h.n→N≤r→(∀ j∈st.wl,N≤j) →
  (∀ st',st'.σ 3 = .sl r 2 v.length 0 v.length→st'.h.at_ r = .row 2 (En v) true→r < st'.h.n→(∀ j,j < N→st'.h.at_ j=st.h.at_ j)→(∀ j∈st'.wl,N≤j)→VN (env P) 151 st' ks K)→V (env P) 151 (.loop L151_0) st (.blk 0::ks) K
 | [],i,st,hr,hile,h3,h8,h9,hb,hrn,hN,hw,hend=>by
   obtain ⟨hii,hlt,hd⟩:=drop_nil hr hile
   have c1:¬ (i:Int) < (v.length:Int):=by omega
   rw [V_loop]
   simp [L151_0,h8,h9,c1,hlt]
   exact hend _ (by simp [h3]) (by simp [hb,hrn]) (by simpa using hrn) (fun j hj=>by simp [show j < st.h.n by omega]) hw
 | q::rest,i,st,hr,hile,h3,h8,h9,hb,hrn,hN,hw,hend=>by
   obtain ⟨hq,hlt,hr',_⟩:=drop_cons hr
   have c2:=fun {dst:Option Nat} {rest:List CI} {i slot slot':Nat} {log:Log} {d:Dr} {K:Ex→St→Prop} {st:St} {ks:List Fr'} {xs:List O}=>VA_prim (E:=env P) (f:=151) (g:=149) (p:=pCloneF 2) (dst:=dst) (rest:=rest) (i:=i) (slot:=slot) (slot':=slot') (log:=log) (d:=d) (K:=K) (st:=st) (ks:=ks) (xs:=xs) rfl
   have z2:∀ H,pCloneF 2 [.im (En q.vec) false] H=some ⟨.im (En q.vec) false,H,[],some []⟩:=fun H=>cloneF_ok (allLen_En (α:=At) rfl _) (by simpa using hE q (List.mem_of_getElem? hq)) (plainss_En _)
   have hw1:=wrapS (i:=i) (by unfold most at hL; omega)
   have hx:(En v)[i]?=some (Enc.c q):=En_at? hq
   have l1:loadR (.row 2 (En v) true) r 2 v.length i 1 1=some ([lv q.vec],[r]):=by
    rw [loadR_row ⟨rfl,by simp⟩,hx]
    rfl
   have hset:(En v).set i (Enc.c q)=En v:=by
    obtain ⟨h1,h2⟩:=List.getElem?_eq_some_iff.1 hx
    rw [← h2]
    exact List.set_getElem_self _
   have s1:∀ H:Heap,storeR H (.row 2 (En v) true) r 2 v.length i 1 [lv q.vec]=some (H.put r (.row 2 (En v) true),r):=fun H=>by
    unfold storeR
    simp only [toRow,ob_some]
    rw [if_pos ⟨trivial,trivial,by simp⟩,hx,ob_some,if_pos (by simp)]
    have:setL (Enc.c q) 1 [lv q.vec]=Enc.c q:=rfl
    rw [this,hset]
   rw [V_loop]
   simp [L151_0,h3,h8,h9,hlt,hb,hrn,l1,c2,z2,s1,hw1]
   refine mcopied_loop hL hE rest (i+1) _ hr' (by omega) (by simp [h3]) (by simp [h8]) (by simp) (by simp [hrn]) (by simpa using hrn) hN ?_ (fun st' a b c d e=>hend st' a b c (fun j hj=>by rw [d j hj]; simp [show j < st.h.n by omega,show ¬ j=r by omega]) e)
   intro j hj
   simp at hj
   rcases hj with rfl | hj
   ·exact hN
   ·exact hw j hj
theorem mcopied_KC {H:Heap} {v:List MRow} {K:PV→Heap→List Nat→Prop} (hL:v.length≤most) (hE:∀ q∈v,q.vec.length≤most) (hK:∀ x H' wl,FN H.n H' 2 x (En v)→H.n≤H'.n→(∀ j,j < H.n→H'.at_ j=H.at_ j)→(∀ j∈wl,H.n≤j)→K x H' wl):KC (env P) 151 [lv v] H K:=by
 have c1:=fun {dst:Option Nat} {rest:List CI} {i slot slot':Nat} {log:Log} {d:Dr} {K:Ex→St→Prop} {st:St} {ks:List Fr'} {xs:List O}=>VA_prim (E:=env P) (f:=151) (g:=196) (p:=pClone 2) (dst:=dst) (rest:=rest) (i:=i) (slot:=slot) (slot':=slot') (log:=log) (d:=d) (K:=K) (st:=st) (ks:=ks) (xs:=xs) rfl
 refine KC_of (cf:=c151) (fun _=>rfl) rfl ?_
 by_cases h0:v=[]
 ·subst h0
  simp [c151,c1,pClone,isStr,elems,allLen]
  rw [V_loop]
  simp [L151_0,resV,resP]
  exact hK _ _ _ (.im rfl rfl) (by simp) (fun j hj=>by simp [hj]) (by simp)
 ·have hl:¬ v.length=0:=fun e=>h0 (List.length_eq_zero_iff.1 e)
  simp [c151,c1,pClone,isStr,elems,h0,hL]
  refine mcopied_loop (r:=H.n) (N:=H.n) hL hE v 0 _ rfl (by omega) (by simp) (by simp) (by simp) (by simp) (by simp) (Nat.le_refl _) (by simp) ?_
  intro st' a3 ab an af aw
  simp [a3,resV,resP]
  have E:=keepH (h:=st'.h) (H:=H) (n:=st'.h.n) rfl
  refine hK _ _ _ (fn_same (.row H.n (by simp) ab (Nat.le_refl _) an (allLen_En (α:=MRow) rfl _)) E) (Nat.le_trans (Nat.le_of_lt an) (Nat.le_of_eq E.1.symm)) (fun j hj=>(E.2 j (by omega)).trans ((af j hj).trans (by simp [hj,show j < H.n+1 by omega,show ¬ j=H.n by omega]))) aw
end Go.Evl.Zone

namespace Go.Evl.Zone
open Go Go.Evl
variable {P:Program}
theorem eqI_loop {a b:List Int} (hL:a.length≤most) (hab:a.length=b.length) {ks:List Fr'} {K:Ex→St→Prop}:∀ (rest:List Int) (i:Nat) (st:St),a.drop i=rest→i≤a.length→a.take i=b.take i→st.σ 0=lv a→st.σ 1=lv b→st.σ 12=iv a.length→st.σ 13=iv i →
  (∀ st',a≠b→st'.σ 4=bv false→K .ret st')→(∀ st',a=b→VN (env P) 207 st' ks K)→V (env P) 207 (.loop L207_0) st (.blk 0::ks) K
 | [],i,st,hr,hi,ht,h0,h1,h12,h13,hret,hend=>by
   obtain ⟨hii,hlt,hd⟩:=drop_nil hr hi
   rw [V_loop]
   simp [L207_0,h12,h13,hlt]
   refine hend _ ?_
   rw [hd] at ht
   rw [ht,hii]
   exact List.take_of_length_le (by omega)
 | q::rest,i,st,hr,hi,ht,h0,h1,h12,h13,hret,hend=>by
   obtain ⟨hq,hlt,hr',hi'⟩:=drop_cons hr
   have hM:most=68719476736:=rfl
   obtain ⟨p,hp⟩:∃ p,b[i]?=some p:=⟨_,List.getElem?_eq_getElem (by omega)⟩
   have wi:IntKind.i64.wrap ((i:Int)+1)=((i+1:Nat):Int):=by rw [wrap64_id (by omega)]; rfl
   have hc:=En_at hq
   have hd:=En_at hp
   have hlb:i < b.length:=by omega
   rw [V_loop]
   by_cases e:q=p
   ·subst e
    simp [L207_0,h0,h1,h12,h13,hlt,hlb,hc,hd,wi]
    exact eqI_loop hL hab rest (i+1) _ hr' (by omega) (by rw [List.take_add_one,List.take_add_one,ht,hq,hp]) (by simp [h0]) (by simp [h1]) (by simp [h12]) (by simp) hret hend
   ·simp [L207_0,h0,h1,h12,h13,hlt,hlb,hc,hd,e]
    refine hret _ (fun h=>e ?_) (by simp)
    rw [h,hp] at hq
    exact (Option.some.inj hq).symm
theorem equalI_ans {a b:List Int} (hL:a.length≤most):ans (env P) 207 [lv a,lv b]=some (bv (decide (a=b))):=by
 refine ans_V rfl rfl ?_
 by_cases hab:a.length=b.length
 ·simp [c207,hab]
  refine eqI_loop (a:=a) (b:=b) hL hab a 0 _ rfl (by omega) (by simp) (by simp) (by simp) (by simp [hab]) (by simp) (fun st' h h4=>?_) (fun st' h=>?_)
  ·simp [h4,h]
  ·simp [h]
 ·have hne:a≠b:=fun h=>hab (by rw [h])
  have hab':¬ (a.length:Int)=(b.length:Int):=by omega
  simp [c207,hab,hab',hne]
theorem spanSame_ans {a b:Sp} (hL:a.x.length≤most):ans (env P) 168 [.agg (spV a),.agg (spV b)]=some (bv (decide (a=b))):=by
 have k:=equalI_ans (P:=P) (a:=a.x) (b:=b.x) hL
 have e:(a=b)↔(a.u=b.u∧a.x=b.x):=by cases a; cases b; simp
 refine ans_V rfl rfl ?_
 by_cases h:a.u=b.u
 ·simp [c168,h,k,e]
 ·simp [c168,h,e]
theorem foldU_len:∀ (l:List Int) (u:Int),(foldU u l).x.length≤l.length
 | [],u=>by simp [foldU]
 | n::l,u=>by
   unfold foldU
   split
   ·have:=foldU_len l (max u n)
    simp; omega
   ·simp
theorem dedZ_len:∀ l:List Int,(dedZ l).length≤l.length:=fun l=>by
 induction l using dedZ.induct with
 | case1=>simp [dedZ]
 | case2 a=>simp [dedZ]
 | case3 a l ih=>unfold dedZ; rw [if_pos rfl]; simp at ih ⊢; omega
 | case4 a b l h ih=>unfold dedZ; rw [if_neg h]; simp at ih ⊢; omega
theorem uniS_len (a b:Sp):(uniS a b).x.length≤a.x.length+b.x.length:=by
 have h1:=foldU_len (dedZ (sortZ (a.x++b.x))) (max a.u b.u)
 have h2:=dedZ_len (sortZ (a.x++b.x))
 rw [sortZ_len,List.length_append] at h2
 unfold uniS
 omega
theorem spanWithin_ans {a b:Sp} (ha:a.wk) (hb:b.wk) (hL:a.x.length+b.x.length≤most):ans (env P) 109 [.agg (spV a),.agg (spV b)]=some (bv (subS a b)):=by
 have k1:=spanUnion_ans (P:=P) ha hb hL
 have k2:=spanSame_ans (P:=P) (a:=uniS a b) (b:=b) (Nat.le_trans (uniS_len a b) hL)
 refine ans_V rfl rfl ?_
 simp [c109,k1,k2]
 rfl
theorem r2W_loop1 {a b:Sp} {v:List Int} (hv:a.x=v) (hb:b.ok) (hLb:b.x.length≤most) {ks:List Fr'} {K:Ex→St→Prop} (hL:v.length≤most):∀ (rest:List Int) (i:Nat) (st:St),v.drop i=rest→i≤v.length→st.σ 2 = .ptr 0 0→st.h.at_ 0 = .box (spV a)→st.σ 3 = .ptr 1 0→st.h.at_ 1 = .box (spV b)→1 < st.h.n→st.σ 6=iv i →
  (∀ st',(∃ n∈rest,¬ b.Has n)→st'.σ 4=bv false→K .ret st')→(∀ st',(∀ n∈rest,b.Has n)→VN (env P) 87 st' ks K)→V (env P) 87 (.loop L87_1) st (.blk 2::ks) K
 | [],i,st,hr,hi,h2,b0,h3,b1,hn,h6,hret,hend=>by
   obtain ⟨hii,hlt,hd⟩:=drop_nil hr hi
   have n0:0 < st.h.n:=by omega
   rw [V_loop]
   simp [L87_1,h2,h6,b0,n0,hv,hlt]
   exact hend _ (by simp)
 | q::rest,i,st,hr,hi,h2,b0,h3,b1,hn,h6,hret,hend=>by
   obtain ⟨hq,hlt,hr',hi'⟩:=drop_cons hr
   have hM:most=68719476736:=rfl
   have n0:0 < st.h.n:=by omega
   have wi:IntKind.i64.wrap ((i:Int)+1)=((i+1:Nat):Int):=by rw [wrap64_id (by omega)]; rfl
   have hc:=En_at hq
   have k:=r2Has_ans (P:=P) (s:=b) (n:=q) (fun m hm=>by have:=hb.x0 m hm; have:=hb.u0; omega) hLb
   rw [V_loop]
   by_cases e:b.Has q
   ·simp only [e,decide_true] at k
    simp [L87_1,h2,h3,h6,b0,b1,n0,hn,hv,hlt,hc,k,wi]
    exact r2W_loop1 hv hb hLb hL rest (i+1) _ hr' (by omega) (by simp [h2]) (by simp [b0,n0]) (by simp [h3]) (by simp [b1,hn]) (by simpa using hn) (by simp) (fun st' ⟨n,h1,h2⟩=>hret st' ⟨n,by simp [h1],h2⟩) (fun st' h=>hend st' (by simpa [e] using h))
   ·simp only [e,decide_false] at k
    simp [L87_1,h2,h3,h6,b0,b1,n0,hn,hv,hlt,hc,k]
    exact hret _ ⟨q,by simp,e⟩ (by simp)
theorem r2Within_ans {a b:Sp} (ha:a.wk) (hb:b.ok) (hLa:a.x.length≤most) (hLb:b.x.length≤most):ans (env P) 87 [.agg (spV a),.agg (spV b)]=some (bv (subS a b)):=by
 have hu0:=hb.u0
 have hu1:=hb.u1
 have hau:=ha.u1
 have w1:IntKind.i64.wrap (b.u+1)=b.u+1:=wrap64_id (by omega)
 have hno:¬ b.Has (b.u+1):=by
  rintro ⟨p,q | q⟩
  ·omega
  ·have:=hb.gap _ q; omega
 have k:=r2Has_ans (P:=P) (s:=b) (n:=b.u+1) (fun m hm=>by have:=hb.x0 m hm; omega) hLb
 simp only [hno,decide_false] at k
 have hs:=subS_iff ha hb
 refine ans_V rfl rfl ?_
 simp [c87,w1]
 rw [V_loop]
 by_cases h:b.u+1≤a.u
 ·have hf:subS a b=false:=by
   rw [Bool.eq_false_iff]
   intro h1
   exact hno (hs.1 h1 _ ⟨by omega,.inl h⟩)
  simp [L87_0,h,k,hf]
 ·simp [L87_0,h]
  have hall:subS a b=true↔∀ n∈a.x,b.Has n:=by
   rw [hs]
   constructor
   ·intro h1 n hn
    exact h1 n ⟨ha.x0 n hn,.inr hn⟩
   ·rintro h1 n ⟨p,q | q⟩
    ·exact ⟨p,.inl (by omega)⟩
    ·exact h1 n q
  refine r2W_loop1 (a:=a) (b:=b) rfl hb hLb hLa a.x 0 _ rfl (by omega) (by simp) (by simp) (by simp) (by simp) (by simp) (by simp) (fun st' ⟨n,h1,h2⟩ h4=>?_) (fun st' h1=>?_)
  ·have hf:subS a b=false:=by
    rw [Bool.eq_false_iff]
    intro h3
    exact h2 (hall.1 h3 n h1)
   simp [h4,hf]
  ·simp [hall.2 h1]
end Go.Evl.Zone

namespace Go.Evl.Zone
open Go Go.Evl
variable {P:Program}
end Go.Evl.Zone

namespace Go.Evl.Zone
open Go Go.Evl
variable {P:Program}
end Go.Evl.Zone

namespace Go.Evl.Zone
open Go Go.Evl
variable {P:Program}
end Go.Evl.Zone

namespace Go.Evl.Zone
open Go Go.Evl Go.Evl.Fl
variable {P:Program}
end Go.Evl.Zone

namespace Go.Evl.Zone
open Go Go.Evl Go.Evl.Fl
variable {P:Program}
end Go.Evl.Zone

namespace Go.Evl.Zone
open Go Go.Evl
variable {P:Program}
end Go.Evl.Zone

namespace Go.Evl.Zone
open Go Go.Evl
variable {P:Program}
theorem idR_len {s:Bytes} (h:idR s=true):s.length≤6:=by
 cases s with
 | nil=>simp
 | cons b r=>simp [idR] at h; simp; omega
end Go.Evl.Zone

namespace Go.Evl.Zone
open Go Go.Evl
variable {P:Program}
end Go.Evl.Zone

namespace Go.Evl.Zone
open Go Go.Evl
variable {P:Program}
def subK (a b:List KRow):Bool:=a.all fun r=>subS r.sp (getS b r.id)
theorem kW1_IC (T:TB P) {b:List KRow} {q:KRow} (hb:KOK b) (hL:b.length≤most) (hq:q.sp.wk) (hqL:q.extra.length≤most - 1048576) {p:Nat} {H:Heap} (hp:H.at_ p = .box [lv b]) (hpn:p < H.n) {K:PV→Heap→List Nat→Prop} (hk:K (bv (!subS q.sp (getS b q.id))) H []):IC (env P) 217 [.agg (Enc.c q),.ptr p 0] H K:=by
 refine IC_rd (fun _=>rfl) rfl ?_
 have hM:most=68719476736:=rfl
 have hg:=getS_ok hb q.id
 have k1:=kOf_ans (P:=P) T (id:=q.id) hb hL
 have k2:=spanWithin_ans (P:=P) hq hg.towk (by have:=hg.len; show q.extra.length + _≤_; omega)
 have hne:¬ p=H.n:=by omega
 have hp1:p < H.n+1:=by omega
 simp only [KRow.sp,spV] at k2
 simp [c217,Enc.c,hp,hpn,hne,hp1,k1,k2]
 refine Rd.mk (bv (!subS q.sp (getS b q.id))) ?_ rfl ?_ ?_ hk
 ·simp [KRow.sp]
 ·intro i hi
  have hi2:¬ i=H.n:=by omega
  simp [hi2,hi]
  try omega
 ·simp
theorem idxK_loop {l:List KRow} {g:FuncId} {caps:List PV} {pr:KRow→Bool} {H:Heap} (hh:inlF g=true) (hg:∀ q∈l,∀ H',Gr H H'→∀ K:PV→Heap→List Nat→Prop,K (bv (pr q)) H' []→IC (env P) g (.agg (Enc.c q)::caps) H' K) {ks:List Fr'} {K:Ex→St→Prop} (hL:l.length≤most):∀ (rest:List KRow) (i:Nat) (st:St),l.drop i=rest→i≤l.length→st.σ 0=lv l→st.σ 1 = .fn g caps→st.σ 7=iv l.length→st.σ 8=iv i→Gr H st.h→st.wl=[] →
  (∀ st' (j:Nat),rest.any pr=true→st'.σ 4=iv j→Gr H st'.h→st'.wl=[]→K .ret st')→(∀ st',rest.any pr=false→Gr H st'.h→st'.wl=[]→VN (env P) 244 st' ks K)→V (env P) 244 (.loop L244_0) st (.blk 0::ks) K
 | [],i,st,hr,hile,h0,h1,h7,hi,hG,hw0,hret,hend=>by
   obtain ⟨hii,hlt,hd⟩:=drop_nil hr hile
   rw [V_loop]
   simp [L244_0,h0,h1,h7,hi,hlt]
   exact hend _ rfl hG.grow hw0
 | q::rest,i,st,hr,hile,h0,h1,h7,hi,hG,hw0,hret,hend=>by
   obtain ⟨hq,hlt,hr',_⟩:=drop_cons hr
   have hc:=En_at hq
   have hw:=wrapS (i:=i) (by unfold most at hL; omega)
   have hal:allLen 3 (En l)=true:=allLen_En rfl l
   have htk:(Enc.c q:List PV).take 3=Enc.c q:=rfl
   rw [V_loop]
   simp [L244_0,h0,h1,h7,hi,hlt,hc,hw,hw0,hal]
   refine VA_inl (g:=g) (caps:=caps) ?_ ?_ ?_
   ·simp [h1]
   ·show howF _ g = .inl; unfold howF; rw [hh]; rfl
   try simp only [List.map_cons,List.map_nil,List.cons_append,List.nil_append]
   simp only [evO_t,put_if]
   refine hg q (List.mem_of_getElem? hq) _ (by repeat (first | exact hG | refine Gr.grow ?_)) _ ?_
   simp [hi,hw]
   refine VB_sp (fun h=>?_) (fun h=>?_)
   ·simp
    exact hret _ i (by simp [h]) (by simp) (by repeat (first | exact hG | refine Gr.grow ?_)) rfl
   ·simp [hi,hw]
    exact idxK_loop hh hg hL rest (i+1) _ hr' (by omega) (by simp [h0]) (by simp [h1]) (by simp [h7]) (by simp) (by repeat (first | exact hG | refine Gr.grow ?_)) rfl (fun st' j a b=>hret st' j (by simp [a]) b) (fun st' a=>hend st' (by simp [a,h]))
theorem idxK_IC {l:List KRow} {g:FuncId} {caps:List PV} {pr:KRow→Bool} {H:Heap} (hh:inlF g=true) (hg:∀ q∈l,∀ H',Gr H H'→∀ K:PV→Heap→List Nat→Prop,K (bv (pr q)) H' []→IC (env P) g (.agg (Enc.c q)::caps) H' K) (hL:l.length≤most) {K:PV→Heap→List Nat→Prop}
  (h:∀ j:Int,(0≤j↔l.any pr=true)→K (iv j) H []):IC (env P) 244 [lv l,.fn g caps] H K:=by
 refine IC_rd (fun _=>rfl) rfl ?_
 simp [c244]
 refine idxK_loop hh hg hL l 0 _ rfl (by omega) (by simp) (by simp) (by simp) (by simp) (by repeat (first | exact Gr.refl | refine Gr.grow ?_)) rfl ?_ ?_
 ·intro st' j ha h4 hG hw
  exact Rd.mk (iv j) ⟨[],by simp [h4]⟩ rfl hG.at_ (by simp [hw]) (h j (by simp [ha]))
 ·intro st' ha hG hw
  simp [hw]
  refine Rd.mk (iv (-1)) ⟨[],by simp⟩ rfl ?_ (by simp [hw]) (h (-1) (by simp [ha]))
  intro i hi
  have:=hG.n
  simp only [at_grow]
  rw [if_pos (by omega)]
  exact hG.at_ i hi
theorem conK_IC {l:List KRow} {g:FuncId} {caps:List PV} {pr:KRow→Bool} {H:Heap} (hh:inlF g=true) (hg:∀ q∈l,∀ H',Gr H H'→∀ K:PV→Heap→List Nat→Prop,K (bv (pr q)) H' []→IC (env P) g (.agg (Enc.c q)::caps) H' K) (hL:l.length≤most) {K:PV→Heap→List Nat→Prop}
  (h:K (bv (l.any pr)) H []):IC (env P) 216 [lv l,.fn g caps] H K:=by
 refine IC_rd (fun _=>rfl) rfl ?_
 simp [c216]
 refine VA_inl (g:=244) (caps:=[]) rfl rfl ?_
 simp
 refine idxK_IC hh (fun q hq H' hG K hk=>hg q hq H' (Gr.trans (Gr.refl.grow) hG |> fun e=>by simpa using e) K hk) hL ?_
 intro j hj
 simp
 refine Rd.mk (bv (l.any pr)) ?_ rfl ?_ (by simp) h
 ·by_cases ha:l.any pr=true
  ·have:=hj.2 ha
   simp [this,ha]
  ·have hn:¬ 0≤j:=fun x=>ha (hj.1 x)
   simp only [Bool.not_eq_true] at ha
   simp [hn,ha]
 ·intro i hi; simp [hi]
theorem kWithin_ans (T:TB P) {a b:List KRow} (ha:∀ r∈a,r.sp.wk∧r.extra.length≤most - 1048576) (hb:KOK b) (hLa:a.length≤most) (hLb:b.length≤most):ans (env P) 182 [lv a,lv b]=some (bv (subK a b)):=by
 have hx:(a.any fun q=>!subS q.sp (getS b q.id)) = !(subK a b):=by
  unfold subK
  rw [List.not_all_eq_any_not]
 refine ans_V rfl rfl ?_
 simp [c182]
 refine VA_inl (g:=216) (caps:=[]) rfl rfl ?_
 simp
 refine conK_IC (pr:=fun q=>!subS q.sp (getS b q.id)) (g:=217) rfl (fun q hq H' hG K hk=>?_) hLa ?_
 ·have h0:=hG.at_ 0 (by simp)
  have h1:=hG.n
  simp at h0 h1
  exact kW1_IC T hb hLb (ha q hq).1 (ha q hq).2 h0 (by omega) hk
 ·simp [hx]
theorem r4W_loop {a b:List KRow} (ha:∀ r∈a,r.sp.wk∧r.extra.length≤most) (hb:KOK b) (hLb:b.length≤most) {ks:List Fr'} {K:Ex→St→Prop} (hL:a.length≤most):∀ (rest:List KRow) (i:Nat) (st:St),a.drop i=rest→i≤a.length→st.σ 0=lv a→st.σ 1=lv b→st.σ 5=iv i →
  (∀ st',rest.all (fun r=>subS r.sp (getS b r.id))=false→st'.σ 4=bv false→K .ret st')→(∀ st',rest.all (fun r=>subS r.sp (getS b r.id))=true→VN (env P) 19 st' ks K)→V (env P) 19 (.loop L19_0) st (.blk 0::ks) K
 | [],i,st,hr,hi,h0,h1,h5,hret,hend=>by
   obtain ⟨hii,hlt,hd⟩:=drop_nil hr hi
   rw [V_loop]
   simp [L19_0,h0,h5,hlt]
   exact hend _ rfl
 | q::rest,i,st,hr,hi,h0,h1,h5,hret,hend=>by
   obtain ⟨hq,hlt,hr',hi'⟩:=drop_cons hr
   have hM:most=68719476736:=rfl
   have wi:IntKind.i64.wrap ((i:Int)+1)=((i+1:Nat):Int):=by rw [wrap64_id (by omega)]; rfl
   have hc:=En_at hq
   have hqa:=ha q (List.mem_of_getElem? hq)
   have hg:=getS_ok hb q.id
   have k1:=r4Of_ans (P:=P) (v:=b) (a:=q.id) hLb
   have k2:=r2Within_ans (P:=P) hqa.1 hg hqa.2 (by have:=hg.len; omega)
   simp only [KRow.sp,spV] at k2
   rw [V_loop]
   cases e:subS q.sp (getS b q.id) with
   | true =>
     have e':=e
     simp only [KRow.sp] at e'
     rw [e'] at k2
     simp [L19_0,h0,h1,h5,hlt,hc,k1,k2,wi]
     exact r4W_loop ha hb hLb hL rest (i+1) _ hr' (by omega) (by simp [h0]) (by simp [h1]) (by simp) (fun st' h=>hret st' (by simp [e,h])) (fun st' h=>hend st' (by simp only [List.all_cons,e,h]; rfl))
   | false =>
     have e':=e
     simp only [KRow.sp] at e'
     rw [e'] at k2
     simp [L19_0,h0,h1,h5,hlt,hc,k1,k2]
     exact hret _ (by simp [e]) (by simp)
theorem r4Within_ans {a b:List KRow} (ha:∀ r∈a,r.sp.wk∧r.extra.length≤most) (hb:KOK b) (hLa:a.length≤most) (hLb:b.length≤most):ans (env P) 19 [lv a,lv b]=some (bv (subK a b)):=by
 refine ans_V rfl rfl ?_
 simp [c19]
 refine r4W_loop (a:=a) (b:=b) ha hb hLb hLa a 0 _ rfl (by omega) (by simp) (by simp) (by simp) (fun st' h h4=>?_) (fun st' h=>?_)
 ·simp [h4,subK,h]
 ·simp [subK,h]
end Go.Evl.Zone

namespace Go.Evl.Zone
open Go Go.Evl
variable {P:Program}
def fstK (k:List KRow):List At:=(k.filter fun r=>decide (0 < r.upto)).map fun r=>⟨r.id,r.upto⟩
theorem fstK_append (a b:List KRow):fstK (a++b)=fstK a++fstK b:=by simp [fstK]
theorem putA_end {α κ:Type} {cmp:κ→κ→Int} {key:α→κ} {x:α}:∀ {l:List α},(∀ y∈l,cmp (key y) (key x) < 0)→putA cmp key x l=l++[x]
 | [],_=>rfl
 | a::l,h=>by
   unfold putA
   rw [if_pos (h a (by simp)),putA_end fun y hy=>h y (by simp [hy])]
   rfl
theorem fstK_mem {k:List KRow} {q:At} (h:q∈fstK k):∃ r∈k,q=⟨r.id,r.upto⟩∧0 < r.upto:=by
 simp only [fstK,List.mem_map,List.mem_filter,decide_eq_true_eq] at h
 obtain ⟨r,⟨h1,h2⟩,rfl⟩:=h
 exact ⟨r,h1,rfl,h2⟩
theorem fstK_vok {k:List KRow} (h:KOK k):VOK (fstK k) where
 srt:=by
  have h1:Srt cmpB KRow.id (k.filter fun r=>decide (0 < r.upto)):=srt_filter h.srt
  unfold Srt fstK at *
  exact List.pairwise_map.2 h1
 lo:=fun q hq=>by
  obtain ⟨r,_,rfl,h2⟩:=fstK_mem hq
  show 1≤r.upto
  omega
 hi:=fun q hq=>by
  obtain ⟨r,h1,rfl,h2⟩:=fstK_mem hq
  exact (h.ok r h1).u1
theorem fstK_len (k:List KRow):(fstK k).length≤k.length:=by
 simp only [fstK,List.length_map]
 exact List.length_filter_le _ _
theorem ofV_none {v:List At} {a:Bytes} (h:∀ q∈v,q.id≠a):ofV v a=0:=by
 unfold ofV
 cases hg:getA At.id v a with
 | none=>rfl
 | some q =>
   obtain ⟨h1,h2⟩:=get_mem hg
   exact (h q h1 h2).elim
theorem setV_end {v:List At} {a:Bytes} {n:Int} (h:∀ q∈v,cmpB q.id a < 0) (hn:1≤n):setV v a n=v++[⟨a,n⟩]:=by
 have h0:ofV v a=0:=ofV_none fun q hq e=>by
  have:=h q hq
  rw [e,cmp_self] at this
  omega
 unfold setV
 rw [h0,show max 0 n=n by omega]
 exact putA_end h
theorem vSet_none {v:List At} {id:Bytes} {n:Int} (hR:ans (env P) 53 [sv id]=some (bv true)) (h1:n < 1) (hL:v.length≤most):ans (env P) 144 [lv v,sv id,iv n]=some (lv v):=by
 have c1:=fun {dst:Option Nat} {rest:List CI} {i slot slot':Nat} {log:Log} {d:Dr} {K:Ex→St→Prop} {st:St} {ks:List Fr'} {xs:List O}=>VA_prim (E:=env P) (f:=144) (g:=149) (p:=pClone 2) (dst:=dst) (rest:=rest) (i:=i) (slot:=slot) (slot':=slot') (log:=log) (d:=d) (K:=K) (st:=st) (ks:=ks) (xs:=xs) rfl
 have hpl:=plainss_En v
 have htk:List.take v.length (En v)=En v:=by have:=List.take_length (l:=En v); simpa using this
 refine ans_V rfl rfl ?_
 by_cases h0:v.length=0
 ·obtain rfl:v=[]:=List.length_eq_zero_iff.1 h0
  simp [c144,c1,pClone,isStr,elems,allLen,hR,h1]
 ·have hv:¬ v=[]:=fun e=>h0 (by rw [e]; rfl)
  have hcl:∀ H,pClone 2 [.im (En v) false] H=some ⟨.sl H.n 2 v.length 0 v.length,(H.grow 1).put H.n (.row 2 (En v) true),[H.n],some []⟩:=fun H=>by
   simp [pClone,isStr,elems,allLen_En,hv,hL]
  simp [c144,c1,hcl,hR,h1,hpl,htk]
theorem fst_loop (T:TB P) {k:List KRow} (hk:KOK k) (hR:∀ q∈k,ans (env P) 53 [sv q.id]=some (bv true)) {ks:List Fr'} {K:Ex→St→Prop} (hL:k.length < most):∀ (rest:List KRow) (i:Nat) (st:St) (fl:Bool),k.drop i=rest→i≤k.length→st.σ 6=lv k→st.σ 7=iv k.length→st.σ 3 = .im (En (fstK (k.take i))) fl→st.σ 8=iv i →
  (∀ st' fl,st'.σ 3 = .im (En (fstK k)) fl→VN (env P) 86 st' ks K)→V (env P) 86 (.loop L86_0) st (.blk 0::ks) K
 | [],i,st,fl,hr,hi,h6,h7,h3,h8,hend=>by
   obtain ⟨hii,hlt,hd⟩:=drop_nil hr hi
   rw [V_loop]
   simp [L86_0,h7,h8,hlt]
   rw [hd] at h3
   exact hend _ fl (by simp [h3])
 | q::rest,i,st,fl,hr,hi,h6,h7,h3,h8,hend=>by
   obtain ⟨hq,hlt,hr',hi'⟩:=drop_cons hr
   have hM:most=68719476736:=rfl
   have wi:IntKind.i64.wrap ((i:Int)+1)=((i+1:Nat):Int):=by rw [wrap64_id (by omega)]; rfl
   have hc:=En_at hq
   have hqk:=List.mem_of_getElem? hq
   have ht:k.take (i+1)=k.take i++[q]:=by rw [List.take_add_one,hq]; rfl
   have hkt:KOK (k.take i):=⟨hk.srt.sublist (List.take_sublist _ _),fun r hr=>hk.ok r (List.mem_of_mem_take hr),fun r hr=>hk.ne r (List.mem_of_mem_take hr)⟩
   have hvok:=fstK_vok hkt
   have hlen:=fstK_len (k.take i)
   have hltk:(k.take i).length≤i:=by rw [List.length_take]; omega
   have e3:∀ H:Heap,expA H (.im (En (fstK (k.take i))) fl)=some (lv (fstK (k.take i)),[]):=fun H=>by simp
   rw [V_loop]
   by_cases h0:0 < q.upto
   ·have hs:=vSet_ans (P:=P) (n:=q.upto) (id:=q.id) T hvok (hR q hqk) (by omega) (hk.ok q hqk).u1 (by omega)
    have hend2:setV (fstK (k.take i)) q.id q.upto=fstK (k.take (i+1)):=by
     rw [ht,fstK_append,setV_end (fun z hz=>?_) (by omega)]
     ·simp [fstK,h0]
     ·obtain ⟨r,hr1,rfl,_⟩:=fstK_mem hz
      have:=hk.srt
      rw [← List.take_append_drop i k,hr] at this
      exact (List.pairwise_append.1 this).2.2 r hr1 q (by simp)
    rw [hend2] at hs
    simp [L86_0,h6,h7,h8,h3,hlt,hc,hs,wi]
    exact fst_loop T hk hR hL rest (i+1) _ false hr' (by omega) (by simp [h6]) (by simp [h7]) (by simp) (by simp) hend
   ·have hs:=vSet_none (P:=P) (n:=q.upto) (v:=fstK (k.take i)) (hR q hqk) (by omega) (by omega)
    have he:fstK (k.take i)=fstK (k.take (i+1)):=by rw [ht,fstK_append]; simp [fstK,h0]
    rw [he] at hs h3
    simp [L86_0,h6,h7,h8,h3,hlt,hc,hs,wi]
    exact fst_loop T hk hR hL rest (i+1) _ false hr' (by omega) (by simp [h6]) (by simp [h7]) (by simp) (by simp) hend
theorem kFirsts_ans (T:TB P) {k:List KRow} (hk:KOK k) (hR:∀ q∈k,ans (env P) 53 [sv q.id]=some (bv true)) (hL:k.length < most):ans (env P) 86 [lv k]=some (lv (fstK k)):=by
 refine ans_V rfl rfl ?_
 simp [c86]
 refine fst_loop T hk hR hL k 0 _ true rfl (by omega) (by simp) (by simp) (by simp [fstK]) (by simp) fun st' fl h3=>?_
 simp [h3]
end Go.Evl.Zone

namespace Go.Evl.Zone
open Go Go.Evl
variable {P:Program}
structure MOK (m:List MRow):Prop where
 srt:Srt cmpB MRow.id m
 ok:∀ r∈m,VOK r.vec
 ne:∀ r∈m,r.vec≠[]
theorem MOK.nil:MOK []:=⟨List.Pairwise.nil,by simp,by simp⟩
def getM (m:List MRow) (a:Bytes):List At:=match getA MRow.id m a with
 | some q=>q.vec
 | none=>[]
def putM (m:List MRow) (a:Bytes) (v:List At):List MRow:=if joinV (getM m a) v=[] then m else putA cmpB MRow.id ⟨a,joinV (getM m a) v⟩ m
def mergeM (m n:List MRow):List MRow:=n.foldl (fun m r=>putM m r.id r.vec) m
theorem getM_vok {m:List MRow} (h:MOK m) (a:Bytes):VOK (getM m a):=by
 unfold getM
 split
 ·rename_i q hq
  exact h.ok q (get_mem hq).1
 ·exact VOK.nil
theorem joinV_vok {a:List At}:∀ {b:List At},VOK a→(∀ q∈b,1≤q.n∧q.n≤1048576)→VOK (joinV a b):=fun {b}=>by
 induction b generalizing a with
 | nil=>exact fun h _=>h
 | cons q b ih=>exact fun h hb=>ih (h.set (hb q (by simp)).1 (hb q (by simp)).2) fun z hz=>hb z (by simp [hz])
theorem setV_ne {v:List At} {a:Bytes} {n:Int}:setV v a n≠[]:=by
 unfold setV
 cases v with
 | nil=>simp [putA]
 | cons b l=>unfold putA; split <;> (try split) <;> simp
theorem joinV_ne {a:List At}:∀ {b:List At},a≠[]→joinV a b≠[]:=fun {b}=>by
 induction b generalizing a with
 | nil=>exact fun h=>h
 | cons q b ih=>exact fun h=>ih (a:=setV a q.id q.n) setV_ne
theorem joinV_len (a:List At):∀ b:List At,(joinV a b).length≤a.length+b.length:=fun b=>by
 induction b generalizing a with
 | nil=>simp [joinV]
 | cons q b ih =>
   have h1:=ih (setV a q.id q.n)
   have h2:=setV_len a q.id q.n
   show (joinV (setV a q.id q.n) b).length≤_
   simp only [List.length_cons]
   omega
theorem joinV_nil {v:List At} (h:VOK v):joinV [] v=v:=by
 have key:∀ (b a:List At),VOK (a++b)→joinV a b=a++b:=fun b=>by
  induction b with
  | nil=>intro a _; simp [joinV]
  | cons q b ih =>
    intro a h
    show joinV (setV a q.id q.n) b=_
    rw [setV_end (fun z hz=>(List.pairwise_append.1 h.srt).2.2 z hz q (by simp)) (h.lo q (by simp)),ih _ (by simpa using h)]
    simp
 exact key v [] h
theorem MOK.put {m:List MRow} (h:MOK m) {a:Bytes} {v:List At} (hv:∀ q∈v,1≤q.n∧q.n≤1048576):MOK (putM m a v):=by
 unfold putM
 split
 ·exact h
 ·rename_i hne
  refine ⟨srt_put cmpB_ok h.srt,fun r hr=>?_,fun r hr=>?_⟩
  ·rcases (mem_put cmpB_ok h.srt).1 hr with rfl | hr
   ·exact joinV_vok (getM_vok h a) hv
   ·exact h.ok r hr.1
  ·rcases (mem_put cmpB_ok h.srt).1 hr with rfl | hr
   ·exact hne
   ·exact h.ne r hr.1
theorem VOK.rng {v:List At} (h:VOK v):∀ q∈v,1≤q.n∧q.n≤1048576:=fun q hq=>⟨h.lo q hq,h.hi q hq⟩
theorem MOK.merge {m n:List MRow} (h:MOK m) (hn:∀ r∈n,VOK r.vec):MOK (mergeM m n):=by
 induction n generalizing m with
 | nil=>exact h
 | cons r n ih=>exact ih (h.put (hn r (by simp)).rng) fun z hz=>hn z (by simp [hz])
theorem putM_len (m:List MRow) (a:Bytes) (v:List At):(putM m a v).length≤m.length+1:=by
 unfold putM
 split
 ·omega
 ·exact putA_len _ _
end Go.Evl.Zone

namespace Go.Evl.Zone
open Go Go.Evl
variable {P:Program}
theorem getM_none {m:List MRow} {a:Bytes} (h:getA MRow.id m a=none):getM m a=[]:=by unfold getM; rw [h]
theorem getM_some {m:List MRow} {a:Bytes} {q:MRow} (h:getA MRow.id m a=some q):getM m a=q.vec:=by unfold getM; rw [h]
theorem mPut_ans (T:TB P) {m:List MRow} {a:Bytes} {v:List At} (hm:MOK m) (hv:VOK v) (hR:ans (env P) 53 [sv a]=some (bv true)) (hRv:∀ q∈v,ans (env P) 53 [sv q.id]=some (bv true))
  (hL:m.length+1≤most) (hE:∀ q∈m,q.vec.length+v.length < most) (hLv:v.length≤most):ans (env P) 85 [lv m,sv a,lv v]=some (lv (putM m a v)):=by
 have hM:most=68719476736:=rfl
 have c2:=fun {dst:Option Nat} {rest:List CI} {i slot slot':Nat} {log:Log} {d:Dr} {K:Ex→St→Prop} {st:St} {ks:List Fr'} {xs:List O}=>VA_prim (E:=env P) (f:=85) (g:=149) (p:=pCloneF 2) (dst:=dst) (rest:=rest) (i:=i) (slot:=slot) (slot':=slot') (log:=log) (d:=d) (K:=K) (st:=st) (ks:=ks) (xs:=xs) rfl
 have c3:=fun {dst:Option Nat} {rest:List CI} {i slot slot':Nat} {log:Log} {d:Dr} {K:Ex→St→Prop} {st:St} {ks:List Fr'} {xs:List O}=>VA_prim (E:=env P) (f:=85) (g:=154) (p:=pIns 2) (dst:=dst) (rest:=rest) (i:=i) (slot:=slot) (slot':=slot') (log:=log) (d:=d) (K:=K) (st:=st) (ks:=ks) (xs:=xs) rfl
 have z2:∀ H,pCloneF 2 [.im (En v) false] H=some ⟨.im (En v) false,H,[],some []⟩:=fun H=>cloneF_ok (allLen_En (α:=At) rfl _) (by simpa using hLv) (plainss_En _)
 have kf:=matFind_ans (P:=P) T (v:=m) (a:=a) hm.srt (by omega)
 have hg:=get_fnd cmpB_ok a hm.srt
 have hp:=plainss_En m
 have htk:List.take m.length (En m)=En m:=by have:=List.take_length (l:=En m); simpa using this
 refine ans_V rfl rfl ?_
 refine V_mono (K:=fun _ s=>∃ is,expV s.h (s.σ 6)=some (lv (putM m a v),is)) ?_ fun e s ⟨is,h⟩=>⟨is,by simpa [-expV,c85,resV,resP] using h⟩
 simp [-expV,c85]
 refine VA_keep (g:=151) (caps:=[]) rfl rfl ?_
 refine mcopied_KC (v:=m) (by omega) (fun q hq=>by have:=hE q hq; omega) fun x H1 wl1 e1 e2 e3 e4=>?_
 cases hga:getA MRow.id m a with
 | none =>
   rw [hga] at hg
   have hfd:fnd (fun q=>cmpB q.id a) m=false:=hg
   rw [hfd] at kf
   have hput:putM m a v=if v=[] then m else putA cmpB MRow.id ⟨a,v⟩ m:=by
    unfold putM
    rw [getM_none hga,joinV_nil hv]
   cases e1 with
   | im hx h0 =>
     have hm0:m=[]:=by cases m with
      | nil=>rfl
      | cons b l=>simp [En_cons] at h0
     subst hx hm0
     have kf0:ans (env P) 152 [.im [] false,sv a]=some (.tup [iv 0,bv false]):=kf
     by_cases hv0:v=[]
     ·subst hv0
      simp [c85,kf0,hR,hput]
     ·have hvl:0 < v.length:=List.length_pos_iff.2 hv0
      simp [c85,kf0,hR,hput,hv0,hvl,c2,c3,z2,pIns,chunks,putA]
      exact ⟨_,rfl⟩
   | row r hx hb hN hr hl =>
     subst hx
     have hble:=lbN_le (c:=fun q:MRow=>cmpB q.id a) m
     have h:=put_at (cmp:=cmpB) (key:=MRow.id) (⟨a,v⟩:MRow) m
     have hf2:fnd (fun z:MRow=>cmpB z.id (⟨a,v⟩:MRow).id) m=false:=hfd
     rw [hf2] at h
     simp only [Bool.false_eq_true,if_false] at h
     have hw:putA cmpB MRow.id ⟨a,v⟩ m=m.take (lbN (fun q=>cmpB q.id a) m)++(⟨a,v⟩:MRow)::m.drop (lbN (fun q=>cmpB q.id a) m):=h
     clear h hf2
     generalize lbN (fun q=>cmpB q.id a) m=b at *
     have hr1:r < H1.n+1:=by omega
     by_cases hv0:v=[]
     ·subst hv0
      simp [c85,kf,hR,hput,hb,hr,htk,hp]
     ·have hvl:0 < v.length:=List.length_pos_iff.2 hv0
      have hble':(b:Int)≤(m.length:Int):=by omega
      rw [if_neg hv0] at hput
      have hE:List.take b (En m)++[sv a,lv v]::List.drop b (En m)=En (putM m a v):=by rw [hput,hw,En_take,En_drop,En_append,En_cons]; rfl
      have hEl:(putM m a v).length=m.length+1:=by rw [hput,hw]; simp; omega
      have hp2:=plainss_En (putM m a v)
      have htk2:List.take (m.length+1) (En (putM m a v))=En (putM m a v):=List.take_of_length_le (by simp [hEl])
      simp [c85,kf,hR,hb,hr,hr1,htk,hp,hvl,c2,c3,z2,chunks]
      simp [pIns,hble,hble',hL,hE,hEl,hp2,htk2,hb,hr,hr1]
 | some q =>
   rw [hga] at hg
   have hfd:fnd (fun q=>cmpB q.id a) m=true:=hg.2
   rw [hfd] at kf
   obtain ⟨hqm,hqi⟩:=get_mem hga
   have hq:=hg.1
   have hne:joinV q.vec v≠[]:=joinV_ne (hm.ne q hqm)
   have h:=put_at (cmp:=cmpB) (key:=MRow.id) (⟨a,joinV q.vec v⟩:MRow) m
   have hf2:fnd (fun z:MRow=>cmpB z.id (⟨a,joinV q.vec v⟩:MRow).id) m=true:=hfd
   rw [hf2] at h
   simp only [if_true] at h
   have hput:putM m a v=m.set (lbN (fun q=>cmpB q.id a) m) ⟨a,joinV q.vec v⟩:=by
    unfold putM
    rw [getM_some hga,if_neg hne]
    exact h
   clear h hf2
   generalize lbN (fun q=>cmpB q.id a) m=b at *
   have hbl:b < m.length:=(List.getElem?_eq_some_iff.1 hq).1
   have hx:(En m)[b]?=some (Enc.c q):=En_at? hq
   have kj:=vJoin_ans (P:=P) T (hm.ok q hqm) hv hRv (hE q hqm)
   cases e1 with
   | im hx0 h0 =>
     exfalso
     cases m with
     | nil=>simp at hbl
     | cons z l=>simp [En_cons] at h0
   | row r hx0 hb hN hr hl =>
     subst hx0
     have hr1:r < H1.n+1:=by omega
     have l1:loadR (.row 2 (En m) true) r 2 m.length b 1 1=some ([lv q.vec],[r]):=by
      rw [loadR_row ⟨rfl,by simp⟩,hx]
      rfl
     have hset:(En m).set b (Enc.c (⟨a,joinV q.vec v⟩:MRow))=En (putM m a v):=by rw [hput]; simp [En,List.map_set]
     have s1:∀ H:Heap,storeR H (.row 2 (En m) true) r 2 m.length b 1 [lv (joinV q.vec v)]=some (H.put r (.row 2 (En (putM m a v)) true),r):=fun H=>by
      unfold storeR
      simp only [toRow,ob_some]
      rw [if_pos ⟨trivial,trivial,by simp⟩,hx,ob_some,if_pos (by simp),← hset]
      have:setL (Enc.c q) 1 [lv (joinV q.vec v)]=Enc.c (⟨a,joinV q.vec v⟩:MRow):=by rw [← hqi]; rfl
      rw [this]
     have hEl:(putM m a v).length=m.length:=by rw [hput]; simp
     have hp2:=plainss_En (putM m a v)
     have htk2:List.take m.length (En (putM m a v))=En (putM m a v):=List.take_of_length_le (by simp [hEl])
     simp [c85,kf,hb,hr,hr1,htk,hp,hbl,l1,kj,s1,hEl,hp2,htk2]
theorem mMerge_loop (T:TB P) {n:List MRow} (hn:∀ r∈n,VOK r.vec) (hR:∀ r∈n,ans (env P) 53 [sv r.id]=some (bv true)) (hRv:∀ r∈n,∀ q∈r.vec,ans (env P) 53 [sv q.id]=some (bv true)) {B:Nat} (hB:∀ r∈n,r.vec.length≤B) {ks:List Fr'} {K:Ex→St→Prop} (hLn:n.length≤most):∀ (rest:List MRow) (i:Nat) (st:St) (m:List MRow) (fl:Bool),n.drop i=rest→i≤n.length→st.σ 10=lv n→st.σ 11=iv n.length→st.σ 5 = .im (En m) fl→st.σ 12=iv i→MOK m→m.length+rest.length < most→(∀ q∈m,q.vec.length+(rest.length+1) * B < most)→(rest.length+1) * B < most →
  (∀ st' fl,st'.σ 5 = .im (En (mergeM m rest)) fl→VN (env P) 114 st' ks K)→V (env P) 114 (.loop L114_0) st (.blk 0::ks) K
 | [],i,st,m,fl,hr,hi,h10,h11,h5,h12,hm,hL,hE,hB2,hend=>by
   obtain ⟨hii,hlt,hd⟩:=drop_nil hr hi
   rw [V_loop]
   simp [L114_0,h11,h12,hlt]
   exact hend _ fl (by simp [h5]; rfl)
 | r::rest,i,st,m,fl,hr,hi,h10,h11,h5,h12,hm,hL,hE,hB2,hend=>by
   obtain ⟨hq,hlt,hr',hi'⟩:=drop_cons hr
   have hM:most=68719476736:=rfl
   have wi:IntKind.i64.wrap ((i:Int)+1)=((i+1:Nat):Int):=by rw [wrap64_id (by omega)]; rfl
   have hc:=En_at hq
   have hrn:=List.mem_of_getElem? hq
   simp only [List.length_cons] at hL hE hB2
   have e1:(rest.length+1+1) * B=(rest.length+1) * B+B:=by rw [Nat.add_mul]; omega
   have hBr:=hB r hrn
   have kp:=mPut_ans (P:=P) T hm (hn r hrn) (hR r hrn) (hRv r hrn) (by omega) (fun q hq=>by have:=hE q hq; omega) (by omega)
   rw [V_loop]
   simp [L114_0,h10,h11,h12,h5,hlt,hc,kp,wi]
   have hpl:=putM_len m r.id r.vec
   refine mMerge_loop T hn hR hRv hB hLn rest (i+1) _ (putM m r.id r.vec) false hr' (by omega) (by simp [h10]) (by simp [h11]) (by simp) (by simp) (hm.put (hn r hrn).rng) (by omega) (fun q hq=>?_) (by omega) hend
   unfold putM at hq
   split at hq
   ·have:=hE q hq; omega
   ·rcases (mem_put cmpB_ok hm.srt).1 hq with rfl | hq
    ·have h1:=joinV_len (getM m r.id) r.vec
     have h2:(getM m r.id).length+(rest.length+1+1) * B < most:=by
      unfold getM
      split
      ·rename_i z hz
       exact hE z (get_mem hz).1
      ·simpa using hB2
     show (joinV (getM m r.id) r.vec).length + _ < _
     omega
    ·have:=hE q hq.1; omega
end Go.Evl.Zone

namespace Go.Evl.Zone
open Go Go.Evl
variable {P:Program}
def Fit2 (m:List MRow) (k B:Nat):Prop:=m.length+k < most∧(k+1) * B < most∧∀ q∈m,q.vec.length+(k+1) * B < most
theorem mMerge_ans (T:TB P) {m n:List MRow} (hm:MOK m) (hn:∀ r∈n,VOK r.vec) (hR:∀ r∈n,ans (env P) 53 [sv r.id]=some (bv true)) (hRv:∀ r∈n,∀ q∈r.vec,ans (env P) 53 [sv q.id]=some (bv true)) {B:Nat} (hB:∀ r∈n,r.vec.length≤B) (hF:Fit2 m n.length B):ans (env P) 114 [lv m,lv n]=some (lv (mergeM m n)):=by
 obtain ⟨hL,hB2,hE⟩:=hF
 have hM:most=68719476736:=rfl
 have hp:=plainss_En m
 have htk:List.take m.length (En m)=En m:=by have:=List.take_length (l:=En m); simpa using this
 refine ans_V rfl rfl ?_
 refine V_mono (K:=fun _ s=>∃ is,expV s.h (s.σ 4)=some (lv (mergeM m n),is)) ?_ fun e s ⟨is,h⟩=>⟨is,by simpa [-expV,c114,resV,resP] using h⟩
 simp [-expV,c114]
 refine VA_keep (g:=151) (caps:=[]) rfl rfl ?_
 refine mcopied_KC (v:=m) (by omega) (fun q hq=>by have:=hE q hq; omega) fun x H1 wl1 e1 e2 e3 e4=>?_
 cases e1 with
 | im hx h0 =>
   have hm0:m=[]:=by cases m with
    | nil=>rfl
    | cons b l=>simp [En_cons] at h0
   subst hx hm0
   simp [-expV]
   refine mMerge_loop T hn hR hRv hB (by omega) n 0 _ [] true rfl (by omega) (by simp) (by simp) (by simp) (by simp) hm (by simpa using hL) (by simp) hB2 fun st' fl h5=>?_
   simp [h5]
 | row r hx hb hN hr hl =>
   subst hx
   have hr1:r < H1.n+1:=by omega
   cases n with
   | nil =>
     simp [-expV]
     rw [V_loop]
     simp [L114_0,hb,hr,htk,hp]
     rfl
   | cons r0 rest =>
     simp only [List.length_cons] at hL hB2 hE
     have e1:(rest.length+1+1) * B=(rest.length+1) * B+B:=by rw [Nat.add_mul]; omega
     have hBr:=hB r0 (by simp)
     have kp:=mPut_ans (P:=P) T hm (hn r0 (by simp)) (hR r0 (by simp)) (hRv r0 (by simp)) (by omega) (fun q hq=>by have:=hE q hq; omega) (by omega)
     have wi:IntKind.i64.wrap 1=1:=wrap64_id (by omega)
     have hll:(rest.length:Int)+1 < 9223372036854775808:=by omega
     have hpos:(0:Int) < (rest.length:Int)+1:=by omega
     simp [-expV]
     rw [V_loop]
     have hc:=En_at (l:=r0::rest) (i:=0) (q:=r0) rfl
     simp [-expV,L114_0,hb,hr,hr1,show ¬ r=H1.n by omega,htk,hp,kp,wi,hpos,hc]
     have hpl:=putM_len m r0.id r0.vec
     refine mMerge_loop T hn hR hRv hB (by simp; omega) rest 1 _ (putM m r0.id r0.vec) false rfl (by simp) (by simp) (by simp) (by simp [own1_v]) (by simp) (hm.put (hn r0 (by simp)).rng) (by omega) (fun q hq=>?_) (by omega) fun st' fl h5=>?_
     ·unfold putM at hq
      split at hq
      ·have:=hE q hq; omega
      ·rcases (mem_put cmpB_ok hm.srt).1 hq with rfl | hq
       ·have h1:=joinV_len (getM m r0.id) r0.vec
        have h2:(getM m r0.id).length+(rest.length+1+1) * B < most:=by
         unfold getM
         split
         ·rename_i z hz
          exact hE z (get_mem hz).1
         ·simpa using hB2
        show (joinV (getM m r0.id) r0.vec).length + _ < _
        omega
       ·have:=hE q hq.1; omega
     ·simp [h5]
      rfl
end Go.Evl.Zone

namespace Go.Evl.Zone
open Go Go.Evl
variable {P:Program}
theorem r10Of_loop {v:List MRow} {a:Bytes} {ks:List Fr'} {K:Ex→St→Prop} (hL:v.length≤most):∀ (rest:List MRow) (i:Nat) (st:St),v.drop i=rest→i≤v.length→st.σ 0=lv v→st.σ 1=sv a→st.σ 5=iv i →
  (∀ st' q,getA MRow.id rest a=some q→st'.σ 4=lv q.vec→K .ret st')→(∀ st',getA MRow.id rest a=none→VN (env P) 164 st' ks K)→V (env P) 164 (.loop L164_0) st (.blk 0::ks) K
 | [],i,st,hr,hile,h0,h1,h5,hret,hend=>by
   obtain ⟨hii,hlt,hd⟩:=drop_nil hr hile
   rw [V_loop]
   simp [L164_0,h0,h5,hlt]
   exact hend _ rfl
 | q::rest,i,st,hr,hile,h0,h1,h5,hret,hend=>by
   obtain ⟨hq,hlt,hr',_⟩:=drop_cons hr
   have hc:=En_at hq
   have hw:=wrapS (i:=i) (by unfold most at hL; omega)
   rw [V_loop]
   by_cases e:q.id=a
   ·have hs:=fun t cx cy=>evBin_seql (P:=P) (t:=t) (cx:=cx) (cy:=cy) a a
    simp only [decide_true] at hs
    simp [L164_0,h0,h1,h5,hlt,hc,hw,hs,e]
    exact hret _ q (by simp [getA,e]) (by simp)
   ·have hs:=fun t cx cy=>evBin_seql (P:=P) (t:=t) (cx:=cx) (cy:=cy) q.id a
    simp only [e,decide_false] at hs
    simp [L164_0,h0,h1,h5,hlt,hc,hw,hs,e]
    exact r10Of_loop (a:=a) hL rest (i+1) _ hr' (by omega) (by simp [h0]) (by simp [h1]) (by simp) (fun st' p h=>hret st' p (by simpa [getA,e] using h)) (fun st' h=>hend st' (by simpa [getA,e] using h))
theorem r10Of_ans {v:List MRow} {a:Bytes} (hL:v.length≤most):ans (env P) 164 [lv v,sv a]=some (lv (getM v a)):=by
 refine ans_V rfl rfl ?_
 simp [c164]
 refine r10Of_loop (a:=a) hL v 0 _ rfl (by omega) (by simp) (by simp) (by simp) ?_ ?_
 ·intro st' q hg h4
  simp [h4,getM,hg]
 ·intro st' hg
  simp [getM,hg]
theorem r10drop_loop {v:List MRow} {a:Bytes} {N:Nat} {ks:List Fr'} {K:Ex→St→Prop} (hL:v.length≤most):∀ (rest:List MRow) (i:Nat) (st:St) (x:PV) (L:List MRow),v.drop i=rest→i≤v.length→st.σ 0=lv v→st.σ 1=sv a→st.σ 6=iv i→st.σ 5=x→LN N st.h 2 x (En L)→L.length≤i→N≤st.h.n→(∀ j∈st.wl,N≤j) →
  (∀ st' x,st'.σ 5=x→LN N st'.h 2 x (En (L++rest.filter fun q=>decide (q.id≠a)))→N≤st'.h.n→(∀ j,j < N→st'.h.at_ j=st.h.at_ j)→(∀ j∈st'.wl,N≤j)→VN (env P) 166 st' ks K)→V (env P) 166 (.loop L166_0) st (.blk 0::ks) K
 | [],i,st,x,L,hr,hile,h0,h1,h6,h5,hl,hle,hN,hw,hend=>by
   obtain ⟨hii,hlt,hd⟩:=drop_nil hr hile
   rw [V_loop]
   simp [L166_0,h0,h6,hlt]
   exact hend _ x (by simp [h5]) (by simpa using hl.grow) (by simpa using hN) (fun j hj=>by simp [show j < st.h.n by omega]) hw
 | q::rest,i,st,x,L,hr,hile,h0,h1,h6,h5,hl,hle,hN,hw,hend=>by
   obtain ⟨hq,hlt,hr',ht⟩:=drop_cons hr
   have hc:=En_at hq
   have hwi:=wrapS (i:=i) (by unfold most at hL; omega)
   have hn:=fun t cx cy=>evBin_sneq (P:=P) (t:=t) (cx:=cx) (cy:=cy) q.id a
   rw [V_loop]
   by_cases hqa:q.id=a
   ·have hn:=fun t cx cy=>evBin_sneq (P:=P) (t:=t) (cx:=cx) (cy:=cy) a a
    simp only [ne_eq,not_true_eq_false,decide_false] at hn
    simp [L166_0,h0,h1,h6,hlt,hc,hn,hwi,hqa]
    refine r10drop_loop (a:=a) hL rest (i+1) _ x L hr' (by omega) (by simp [h0]) (by simp [h1]) (by simp) (by simp [h5]) (by repeat (first | exact hl | refine LN.grow ?_)) (by omega) (by simpa using hN) hw fun st' x e1 e2 e3 e4 e5=>hend st' x e1 (by simpa [hqa] using e2) e3 (fun j hj=>by rw [e4 j hj]; simp [show j < st.h.n by omega]) e5
   ·simp [L166_0,h0,h1,h6,h5,hlt,hc,hn,hwi,hqa,chunks,elems,allLen]
    refine VP_appN (N:=N) (ys:=En L) (by repeat (first | exact hl | refine LN.grow ?_)) (by simp) (by simp) hN (by simp [allLen]) (by simp; omega) fun v' H' wr rd e2 e3 _ e5 e6=>?_
    simp [h6,hwi,e3]
    refine r10drop_loop (a:=a) hL rest (i+1) _ v' (L++[q]) hr' (by omega) (by simp [h0]) (by simp [h1]) (by simp) (by simp) ?_ (by simp; omega) (by simp [e3]; omega) (fun j hj=>(List.mem_append.1 hj).elim (e6 j) (hw j)) fun st' x g1 g2 g3 g4 g5=>hend st' x g1 (by simpa [hqa] using g2) g3 (fun j hj=>by rw [g4 j hj]; simp [e3,show j < st.h.n+1 by omega,e5 j hj,show j < st.h.n by omega]) g5
    rw [En_append,En_one]
    repeat (first | exact e2 | refine LN.grow ?_)
theorem r10drop_KC {H:Heap} {v:List MRow} {a:Bytes} {K:PV→Heap→List Nat→Prop} (hL:v.length≤most) (hK:∀ x H' wl,LN H.n H' 2 x (En (v.filter fun q=>decide (q.id≠a)))→H.n≤H'.n→(∀ j,j < H.n→H'.at_ j=H.at_ j)→(∀ j∈wl,H.n≤j)→K x H' wl):KC (env P) 166 [lv v,sv a] H K:=by
 refine KC_of (cf:=c166) (fun _=>rfl) rfl ?_
 simp [c166]
 refine r10drop_loop (a:=a) (N:=H.n) hL v 0 _ (.im [] true) [] rfl (by omega) (by simp) (by simp) (by simp) (by simp) LN.nil (by simp) (by simp) (by simp) fun st' x e1 e2 e3 e4 e5=>?_
 simp [e1,resV,resP]
 have E:=keepH (h:=st'.h) (H:=H) (n:=st'.h.n) rfl
 refine hK x _ _ (ln_sameG e2 E) (Nat.le_trans e3 (Nat.le_of_eq E.1.symm)) (fun j hj=>(E.2 j (by omega)).trans (by rw [e4 j hj]; simp [hj])) e5
theorem r10put_loop {ks:List Fr'} {K:Ex→St→Prop} {x:MRow} (hx:x.id.length≤big):∀ (L1 L2:List MRow) (st:St) (w:PV) (r:Nat) (xs:List (List PV)),(∀ q∈L1,q.id.length≤big∧q.id≠x.id)→L1.length+L2.length+1≤most→st.σ 8=w→Rw st.h 2 w (En (L1++x::L2)) r xs→st.σ 9=iv L1.length→(∀ z,L2.head?=some z→cmpB x.id z.id < 0) →
  (∀ st' L1' L2' w' r' xs',L1'++L2'=L1++L2→(∀ y,lastP none L1'=some y→cmpB y.id x.id < 0)→(∀ z,L2'.head?=some z→cmpB x.id z.id < 0)→st'.σ 8=w'→Rw st'.h 2 w' (En (L1'++x::L2')) r' xs'→VN (env P) 104 st' ks K)→V (env P) 104 (.loop L104_0) st (.blk 0::ks) K:=by
 intro L1
 generalize hn:L1.length=n
 induction n generalizing L1 with
 | zero =>
   intro L2 st w r xs hids hm hl hR hi h2 hend
   obtain rfl:L1=[]:=List.length_eq_zero_iff.1 hn
   rw [V_loop]
   simp [L104_0,hl,hi]
   exact hend _ [] L2 w r xs rfl (by simp [lastP]) h2 (by simp [hl]) hR.grow
 | succ n ih =>
   intro L2 st w r xs hids hm hl hR hi h2 hend
   obtain ⟨L1,y,rfl⟩:∃ L y,L1=L++[y]:=by
    rcases List.eq_nil_or_concat L1 with h | ⟨L,y,h⟩
    ·rw [h] at hn; simp at hn
    ·exact ⟨L,y,by simpa using h⟩
   have hn':L1.length=n:=by simpa using hn
   have hy:=hids y (by simp)
   have hk:=r1Compare_ans (P:=P) (s:=y.id) (t:=x.id) hy.1 hx
   have hv:=hR.v
   have hb:=hR.b
   have hlt:=hR.lt
   have hle:=hR.le
   have eq:=hR.eq
   simp only [En_length,List.length_append,List.length_cons,List.length_nil] at hle eq
   have ix:∀ (j:Nat) (q:MRow),((L1++[y])++x::L2)[j]?=some q→xs[j]?=some (Enc.c q):=fun j q hq=>by
    have h1:(En ((L1++[y])++x::L2))[j]?=some (Enc.c q):=En_at? hq
    rw [← hR.eq,List.getElem?_take] at h1
    split at h1
    ·exact h1
    ·cases h1
   have iy:=ix n y (by simp [← hn'])
   have ixx:=ix (n+1) x (by simp [← hn'])
   have hm':=hm
   unfold most at hm'
   have wn:IntKind.i64.wrap (n:Int)=(n:Int):=wrap64_id (by simp at hm'; omega)
   have b0:(n:Int) < (n:Int)+((L2.length:Int)+1+1):=by omega
   have b1:(n:Int)+1 < (n:Int)+((L2.length:Int)+1+1):=by omega
   have b2:(0:Int)≤(n:Int)+1:=by omega
   have b3:((n:Int)+1).toNat=n+1:=by omega
   have b4:n < n+(L2.length+1+1):=by omega
   have b5:n+1 < n+(L2.length+1+1):=by omega
   have hi':st.σ 9=iv ((n:Int)+1):=by rw [hi]; rfl
   have lx:n < xs.length:=by omega
   have lx1:n+1 < xs.length:=by omega
   rw [V_loop]
   have iy2:(xs.set n (Enc.c x))[n+1]?=some (Enc.c x):=by rw [List.getElem?_set_ne (by omega)]; exact ixx
   have s1:∀ H,storeR H (.row 2 xs true) r 2 xs.length n 0 (Enc.c x)=some (H.put r (.row 2 (xs.set n (Enc.c x)) true),r):=fun H=>storeRG rfl iy rfl rfl
   have s2:∀ H,storeR H (.row 2 (xs.set n (Enc.c x)) true) r 2 xs.length (n+1) 0 (Enc.c y)=some (H.put r (.row 2 ((xs.set n (Enc.c x)).set (n+1) (Enc.c y)) true),r):=fun H=>storeRG (by simp) iy2 rfl rfl
   simp only [Enc.c] at s1 s2
   by_cases hc:0 < cmpB y.id x.id
   ·simp [L104_0,hl,hv,hi',hk,hb,hlt,hn',wn,b0,b1,b2,b3,b4,b5,iy,ixx,hc,loadR_row,s1,s2]
    refine ih L1 hn' (y::L2) _ w r _ (fun q hq=>hids q (by simp [hq])) (by simp at hm ⊢; omega) (by simp [hl,hv,hn']) (Rw.grow (m:=0) (ys:=En (L1++x::y::L2)) (xs:=(xs.set n (Enc.c x)).set (n+1) (Enc.c y)) ?_) (by simp [hn']) (fun z hz=>?_) fun st' L1' L2' w' r' xs' e1=>hend st' L1' L2' w' r' xs' (by simpa using e1)
    ·have R1:=(hR.grow (m:=0)).set (i:=n) (y:=Enc.c x) rfl
     have R2:=R1.set (i:=n+1) (y:=Enc.c y) rfl
     rw [show En (L1++x::y::L2)=((En ((L1++[y])++x::L2)).set n (Enc.c x)).set (n+1) (Enc.c y) by
      rw [← hn']
      simp [En_append,En_cons,En_length]]
     exact R2
    ·obtain rfl:y=z:=by simpa using hz
     exact cmp_anti _ _ hc
   ·simp [L104_0,hl,hv,hi',hk,hb,hlt,hn',wn,b0,b1,b2,b3,b4,b5,iy,ixx,hc,loadR_row]
    refine hend _ (L1++[y]) L2 w r xs rfl (fun z hz=>?_) h2 (by simp [hl,hv,hn']) (by repeat (first | exact hR | refine Rw.grow ?_))
    rw [lastP_some] at hz
    obtain rfl:y=z:=by simpa using hz
    have h3:cmpB y.id x.id≠0:=fun h=>hy.2 (cmp_zero y.id x.id h)
    omega
theorem r10Put_ans {m:List MRow} {a:Bytes} {v:List At} (hm:MOK m) (hi:∀ q∈m,q.id.length≤big) (hiv:∀ q∈m,IdV q.vec) (ha:a.length≤big) (hv:VOK v) (hvi:IdV v) (hR:ans (env P) 165 [sv a]=some (bv true))
  (hL:m.length < most) (hE:∀ q∈m,q.vec.length+v.length < most) (hLv:v.length < most):ans (env P) 104 [lv m,sv a,lv v]=some (lv (putM m a v)):=by
 have k1:=r10Of_ans (P:=P) (v:=m) (a:=a) (by omega)
 have hgv:(getM m a).length+v.length < most∧IdV (getM m a):=by
  unfold getM
  split
  ·rename_i q hq
   exact ⟨hE q (get_mem hq).1,hiv q (get_mem hq).1⟩
  ·exact ⟨by simpa using hLv,fun q hq=>by simp at hq⟩
 have k2:=r3Join_ans (P:=P) (getM_vok hm a) hgv.2 hv hvi hgv.1
 obtain ⟨w,hw⟩:∃ w,w=joinV (getM m a) v:=⟨_,rfl⟩
 have hput:putM m a v=if w=[] then m else putA cmpB MRow.id ⟨a,w⟩ m:=by rw [hw]; rfl
 rw [← hw] at k2
 refine ans_V rfl rfl ?_
 by_cases hw0:w=[]
 ·rw [if_pos hw0] at hput
  rw [hput]
  subst hw0
  have k2':ans (env P) 122 [lv (getM m a),lv v]=some (.im [] false):=k2
  refine V_mono (K:=fun _ s=>∃ is,expV s.h (s.σ 6)=some (lv m,is)) ?_ fun e s ⟨is,h⟩=>⟨is,by simpa [-expV,c104,resV,resP] using h⟩
  simp [-expV,c104,k1,k2',hR,chunks,elems,allLen_En]
  refine VP_appF (N:=0) (ys:=[]) (.im rfl rfl) (by simp) (by simp) (by omega) (by exact allLen_En (α:=MRow) rfl m) (by simp; omega) fun v1 H1 wr1 rd1 e1 e2 e3 e4 e5=>?_
  simp [-expV]
  obtain ⟨is,hx⟩:=e1.ln.l.expV (by simpa using plainss_En m)
  exact ⟨is,by simpa [-expV] using hx⟩
 ·rw [if_neg hw0] at hput
  have hwl:¬ w.length < 1:=by have:=List.length_pos_iff.2 hw0; omega
  have hwl2:¬ (w.length:Int) < 1:=by omega
  refine V_mono (K:=fun _ s=>∃ is,expV s.h (s.σ 6)=some (lv (putM m a v),is)) ?_ fun e s ⟨is,h⟩=>⟨is,by simpa [-expV,c104,resV,resP] using h⟩
  simp [-expV,c104,k1,k2,hR,hwl,hwl2,hw0]
  refine VA_keep (g:=166) (caps:=[]) rfl rfl ?_
  refine r10drop_KC (v:=m) (a:=a) (by omega) fun x H' wl d1 d2 d3 d4=>?_
  simp [-expV,chunks,elems,allLen]
  obtain ⟨F,hF⟩:∃ F,F=m.filter (fun q=>decide (q.id≠a)):=⟨_,rfl⟩
  rw [← hF] at d1
  have hFl:F.length≤m.length:=by rw [hF]; exact List.length_filter_le _ _
  have hFi:∀ q∈F,q.id.length≤big∧q.id≠a:=fun q hq=>by
   rw [hF] at hq
   have:=List.mem_filter.1 hq
   exact ⟨hi q this.1,by simpa using this.2⟩
  refine VP_appR (ys:=En F) (by repeat (first | exact d1.l | refine Lst.grow ?_)) (by rw [d3 0 (by simp)]; simp) (by have h:=d2; simp at h; omega) (by simp [allLen]) (by simp) (by simp; omega) fun v' H2 wr rd r xs e2 e3 _=>?_
  have e2':Rw H2 2 v' (En (F++⟨a,w⟩::[])) r xs:=by rw [En_append,En_one]; exact e2
  have hle:lenP false v'=some (F.length+1):=by rw [e2'.lst.len]; simp
  have hFm:F.length < 68719476736:=by
   have:most=68719476736:=rfl
   omega
  have wF:IntKind.i64.wrap (F.length:Int)=(F.length:Int):=wrap64_id (by omega)
  simp [-expV,e3,hle,wF]
  refine r10put_loop (x:=⟨a,w⟩) ha F [] _ v' r xs hFi (by simp; unfold most; omega) (by simp) (by repeat (first | exact e2' | refine Rw.grow ?_)) (by simp) (by simp) fun st' L1 L2 w' r' xs' u1 u2 u3 u4 u5=>?_
  have hput2:=put_of cmpB_ok (x:=(⟨a,w⟩:MRow)) hm.srt (L1:=L1) (L2:=L2) (by rw [u1,List.append_nil,hF]) u2 u3
  rw [hput2,← hput] at u5
  obtain ⟨is,hx⟩:=(Rw.grow (m:=0) u5).lst.expV (plainss_En _)
  simp [-expV,u4]
  exact ⟨is,hx⟩
end Go.Evl.Zone

namespace Go.Evl.Zone
open Go Go.Evl
variable {P:Program}
structure IdM (m:List MRow):Prop where
 id:∀ r∈m,r.id.length≤big
 vec:∀ r∈m,IdV r.vec
theorem joinV_idv {b:List At}:∀ {a:List At},VOK a→VOK b→IdV a→IdV b→IdV (joinV a b):=by
 have key:∀ {a:List At},VOK a→(∀ q∈b,1≤q.n∧q.n≤1048576)→IdV a→IdV b→IdV (joinV a b):=by
  induction b with
  | nil=>exact fun _ _ h _=>h
  | cons q b ih=>exact fun ha hb hi hib=>ih (ha.set (hb q (by simp)).1 (hb q (by simp)).2) (fun z hz=>hb z (by simp [hz])) (IdV.set ha hi (hib q (by simp))) fun z hz=>hib z (by simp [hz])
 exact fun {a} ha hb=>key (a:=a) ha hb.rng
theorem IdM.put {m:List MRow} (hm:MOK m) (h:IdM m) {a:Bytes} {v:List At} (ha:a.length≤big) (hv:VOK v) (hvi:IdV v):IdM (putM m a v):=by
 have hg:IdV (getM m a):=by
  unfold getM
  split
  ·rename_i q hq
   exact h.vec q (get_mem hq).1
  ·exact fun q hq=>by simp at hq
 unfold putM
 split
 ·exact h
 ·refine ⟨fun r hr=>?_,fun r hr=>?_⟩
  ·rcases (mem_put cmpB_ok hm.srt).1 hr with rfl | hr
   ·exact ha
   ·exact h.id r hr.1
  ·rcases (mem_put cmpB_ok hm.srt).1 hr with rfl | hr
   ·exact joinV_idv (getM_vok hm a) hv hg hvi
   ·exact h.vec r hr.1
theorem putM_vlen {m:List MRow} (hm:MOK m) {a:Bytes} {v:List At} {k B:Nat} (hv:v.length≤B) (hB2:(k+1+1) * B < most) (hE:∀ q∈m,q.vec.length+(k+1+1) * B < most):∀ q∈putM m a v,q.vec.length+(k+1) * B < most:=fun q hq=>by
 have e1:(k+1+1) * B=(k+1) * B+B:=by rw [Nat.add_mul]; omega
 unfold putM at hq
 split at hq
 ·have:=hE q hq; omega
 ·rcases (mem_put cmpB_ok hm.srt).1 hq with rfl | hq
  ·have h1:=joinV_len (getM m a) v
   have h2:(getM m a).length+(k+1+1) * B < most:=by
    unfold getM
    split
    ·rename_i z hz
     exact hE z (get_mem hz).1
    ·simpa using hB2
   show (joinV (getM m a) v).length + _ < _
   omega
  ·have:=hE q hq.1; omega
theorem r10M_loop {n:List MRow} (hn:∀ r∈n,VOK r.vec) (hni:IdM n) (hR:∀ r∈n,ans (env P) 165 [sv r.id]=some (bv true)) {B:Nat} (hB:∀ r∈n,r.vec.length≤B) {ks:List Fr'} {K:Ex→St→Prop} (hLn:n.length≤most):∀ (rest:List MRow) (i:Nat) (st:St) (m:List MRow),n.drop i=rest→i≤n.length→st.σ 1=lv n→((∃ fl,st.σ 5 = .im (En m) fl)∨∃ r,st.σ 5 = .sl r 2 m.length 0 m.length∧st.h.at_ r = .row 2 (En m) true∧r < st.h.n)→st.σ 6=iv i→MOK m→IdM m→m.length+rest.length < most→(∀ q∈m,q.vec.length+(rest.length+1) * B < most)→(rest.length+1) * B < most →
  (∀ st',((∃ fl,st'.σ 5 = .im (En (mergeM m rest)) fl)∨∃ r,st'.σ 5 = .sl r 2 (mergeM m rest).length 0 (mergeM m rest).length∧st'.h.at_ r = .row 2 (En (mergeM m rest)) true∧r < st'.h.n)→VN (env P) 123 st' ks K)→V (env P) 123 (.loop L123_0) st (.blk 0::ks) K
 | [],i,st,m,hr,hi,h1,h5,h6,hm,him,hL,hE,hB2,hend=>by
   obtain ⟨hii,hlt,hd⟩:=drop_nil hr hi
   have hp:=plainss_En m
   have htk:List.take m.length (En m)=En m:=by have:=List.take_length (l:=En m); simpa using this
   rw [V_loop]
   simp [L123_0,h1,h6,hlt]
   refine hend _ ?_
   rcases h5 with ⟨fl,h5⟩ | ⟨r,h5,hb,hrn⟩
   ·exact .inl ⟨fl,by simp [h5]; rfl⟩
   ·exact .inr ⟨r,by simp [h5]; rfl,by simp [hb,hrn]; rfl,by simpa using hrn⟩
 | r0::rest,i,st,m,hr,hi,h1,h5,h6,hm,him,hL,hE,hB2,hend=>by
   obtain ⟨hq,hlt,hr',hi'⟩:=drop_cons hr
   have hM:most=68719476736:=rfl
   have wi:IntKind.i64.wrap ((i:Int)+1)=((i+1:Nat):Int):=by rw [wrap64_id (by omega)]; rfl
   have hc:=En_at hq
   have hrn0:=List.mem_of_getElem? hq
   simp only [List.length_cons] at hL hE hB2
   have e1:(rest.length+1+1) * B=(rest.length+1) * B+B:=by rw [Nat.add_mul]; omega
   have hBr:=hB r0 hrn0
   have hp:=plainss_En m
   have htk:List.take m.length (En m)=En m:=by have:=List.take_length (l:=En m); simpa using this
   have kp:=r10Put_ans (P:=P) hm him.id him.vec (hni.id r0 hrn0) (hn r0 hrn0) (hni.vec r0 hrn0) (hR r0 hrn0) (by omega) (fun q hq=>by have:=hE q hq; omega) (by omega)
   have hpl:=putM_len m r0.id r0.vec
   have nx:=fun st' a b c=>r10M_loop hn hni hR hB hLn rest (i+1) st' (putM m r0.id r0.vec) hr' (by omega) a b c (hm.put (hn r0 hrn0).rng) (IdM.put hm him (hni.id r0 hrn0) (hn r0 hrn0) (hni.vec r0 hrn0)) (by omega) (putM_vlen hm hBr hB2 hE) (by omega) hend
   rw [V_loop]
   rcases h5 with ⟨fl,h5⟩ | ⟨r,h5,hb,hrn⟩
   ·simp [L123_0,h1,h5,h6,hlt,hc,kp,wi]
    exact nx _ (by simp [h1]) (.inl ⟨false,by simp⟩) (by simp)
   ·obtain ⟨H',wr,o1,o2,w',o3⟩:=own1_ex (H:=st.h.grow 0) (lv (putM m r0.id r0.vec)) (show (st.h.grow 0).at_ r = .row 2 (En m) true by simp [hb,hrn])
    simp at o2
    simp [L123_0,h1,h5,h6,hlt,hc,hb,hrn,htk,hp,kp,wi,o1,o2]
    exact nx _ (by simp [h1]) (.inl ⟨false,by simp [own1_v]⟩) (by simp)
theorem r10Merge_ans {m n:List MRow} (hm:MOK m) (him:IdM m) (hn:∀ r∈n,VOK r.vec) (hni:IdM n) (hR:∀ r∈n,ans (env P) 165 [sv r.id]=some (bv true)) {B:Nat} (hB:∀ r∈n,r.vec.length≤B) (hF:Fit2 m n.length B):ans (env P) 123 [lv m,lv n]=some (lv (mergeM m n)):=by
 obtain ⟨hL,hB2,hE⟩:=hF
 refine ans_V rfl rfl ?_
 refine V_mono (K:=fun _ s=>∃ is,expV s.h (s.σ 4)=some (lv (mergeM m n),is)) ?_ fun e s ⟨is,h⟩=>⟨is,by simpa [-expV,c123,resV,resP] using h⟩
 simp [-expV,c123,chunks,elems,allLen_En]
 refine VP_appF (N:=0) (ys:=[]) (.im rfl rfl) (by simp) (by simp) (by omega) (by exact allLen_En (α:=MRow) rfl m) (by simp; omega) fun v1 H1 wr1 rd1 e1 e2 e3 e4 e5=>?_
 rw [List.nil_append] at e1
 simp [-expV]
 refine r10M_loop hn hni hR hB (by omega) n 0 _ m rfl (by omega) (by simp) ?_ (by simp) hm him hL hE hB2 fun st' h5=>?_
 ·cases e1 with
  | im hv h0 =>
    have hm0:m=[]:=by cases m with
     | nil=>rfl
     | cons b l=>simp [En_cons] at h0
    subst hv hm0
    exact .inl ⟨true,by simp⟩
  | row r hv hb hN hr hl =>
    subst hv
    exact .inr ⟨r,by simp,by simp [hb,hr],by simpa using hr⟩
 ·have hp:=plainss_En (mergeM m n)
  have htk:List.take (mergeM m n).length (En (mergeM m n))=En (mergeM m n):=by have:=List.take_length (l:=En (mergeM m n)); simpa using this
  rcases h5 with ⟨fl,h5⟩ | ⟨r,h5,hb,hrn⟩
  ·simp [h5]
  ·simp [h5,hb,hrn,htk,hp]
end Go.Evl.Zone
