/- Contracts of functions and plain facts, part 3. -/
set_option linter.all false
namespace Go.Aut

structure kK where
 n:Nat
 nc:Nat
 cell:Nat->Nat
 next:Nat->Nat->Nat
 acc:Nat->Bool
namespace kK
def step(m:kK)(s b:Nat):Nat:=m.next s (m.cell b)
def run(m:kK):Nat->List Nat->Nat
 |s,[]=>s
 |s,b::w=>run m (m.step s b) w
def lang(m:kK)(s:Nat)(w:List Nat):Bool:=m.acc (m.run s w)
theorem run_append(m:kK):∀ (s:Nat) (u v:List Nat),m.run s (u++v)=m.run (m.run s u) v
 |s,[],v=>rfl
 |s,b::u,v=>run_append m (m.step s b) u v
end kK
def Bytes(w:List Nat):Prop:=∀ b∈w,b< 256
theorem Bytes.nil:Bytes []:=fun _ h=>by cases h
theorem Bytes.cons{b:Nat}{w:List Nat}(hb:b< 256)(hw:Bytes w):Bytes (b::w):=fun x hx=>by
 rcases List.mem_cons.1 hx with rfl|hx
 ·exact hb
 ·exact hw x hx
theorem Bytes.app{u v:List Nat}(hu:Bytes u)(hv:Bytes v):Bytes (u++v):=fun x hx=>(List.mem_append.1 hx).elim (hu x) (hv x)

structure aj(m:kK)(L:List Nat->Bool):Prop where
 pos:0< m.n
 cpos:0< m.nc
 cellOK:∀ b,b< 256->m.cell b< m.nc
 nextOK:∀ s c,s< m.n->c< m.nc->m.next s c< m.n
 lang:∀ w,Bytes w->m.lang 0 w=L w
 apart:∀ s t,s< m.n->t< m.n->s≠t->∃ w,Bytes w/\m.lang s w≠m.lang t w
 capart:∀ c d,c< m.nc->d< m.nc->c≠d->∃ s,s< m.n/\m.next s c≠m.next s d
 /- classes by their least bytes -/
 cfirst:∀ b,b< 256->∀ v,v< m.cell b->∃ a,a< b/\m.cell a=v
 conto:∀ c,c< m.nc->∃ b,b< 256/\m.cell b=c
 /- states in breadth-first order: row s names only states whose smaller ones have been named ahead -/
 first:∀ s c,s< m.n->c< m.nc->∀ v,0< v->v< m.next s c->∃ t d,t< m.n/\d< m.nc/\(t< s\/t=s/\d< c)/\m.next t d=v
 onto:∀ s,0< s->s< m.n->∃ t c,t< s/\c< m.nc/\m.next t c=s

theorem Br{m:kK}{L:List Nat->Bool}(h:aj m L):∀ (w:List Nat) (s:Nat),s< m.n->Bytes w->m.run s w< m.n
 |[],s,hs,_=>hs
 |b::w,s,hs,hw=>Br h w _ (h.nextOK s _ hs (h.cellOK b (hw b List.mem_cons_self))) fun x hx=>hw x (List.mem_cons_of_mem _ hx)
theorem reach{m:kK}{L:List Nat->Bool}(h:aj m L)(s:Nat)(hs:s< m.n):∃ w,Bytes w/\m.run 0 w=s:=by
 induction s using Nat.strongRecOn with
 | ind s ih=>
  by_cases h0:s=0
  ·subst h0;exact⟨[],Bytes.nil,rfl⟩
  ·obtain⟨t,c,ht,hc,e⟩:=h.onto s (by omega) hs
   obtain⟨w,hw,hr⟩:=ih t ht (by omega);obtain⟨b,hb,hcb⟩:=h.conto c hc;refine⟨w++[b],hw.app (Bytes.cons hb Bytes.nil),?_⟩;rw[kK.run_append,hr]
   show m.next t (m.cell b)=s
   rw[hcb,e]
theorem res{m:kK}{L:List Nat->Bool}(h:aj m L){u:List Nat}(hu:Bytes u){w:List Nat}(hw:Bytes w):m.lang (m.run 0 u) w=L (u++w):=by
 rw[<-h.lang _ (hu.app hw),kK.lang,kK.lang,kK.run_append]
theorem zxs{m:kK}{L:List Nat->Bool}(h:aj m L){s t:Nat}(hs:s< m.n)(ht:t< m.n)(e:∀ w,Bytes w->m.lang s w=m.lang t w):s=t:=by
 by_cases hst:s=t
 ·exact hst
 ·obtain⟨w,hw,hne⟩:=h.apart s t hs ht hst
  exact absurd (e w hw) hne
theorem UE{m m':kK}{L:List Nat->Bool}(h:aj m L)(h':aj m' L){u v:List Nat}(hu:Bytes u)(hv:Bytes v):m.run 0 u=m.run 0 v↔m'.run 0 u=m'.run 0 v:=by
 have key:∀ {m m':kK},aj m L->aj m' L->m.run 0 u=m.run 0 v->m'.run 0 u=m'.run 0 v:=fun {m m'} h h' e=>by
  refine zxs h' (Br h' u 0 h'.pos hu) (Br h' v 0 h'.pos hv) fun w hw=>?_;rw[res h' hu hw,res h' hv hw, <-res h hu hw, <-res h hv hw,e]
 exact⟨key h h',key h' h⟩

theorem xX{m m':kK}{L:List Nat->Bool}(h:aj m L)(h':aj m' L){a b:Nat}(ha:a< 256)(hb:b< 256):m.cell a=m.cell b↔m'.cell a=m'.cell b:=by
 have key:∀ {m m':kK},aj m L->aj m' L->m.cell a=m.cell b->m'.cell a=m'.cell b:=fun {m m'} h h' e=>by
  by_cases hne:m'.cell a=m'.cell b
  ·exact hne
  ·obtain⟨s,hs,hd⟩:=h'.capart _ _ (h'.cellOK a ha) (h'.cellOK b hb) hne
   obtain⟨u,hu,hr⟩:=reach h' s hs
   have h1:m.run 0 (u++[a])=m.run 0 (u++[b]):=by
    rw[kK.run_append,kK.run_append]
    show m.next _ (m.cell a)=m.next _ (m.cell b)
    rw[e]
   have h2:=(UE h h' (hu.app (Bytes.cons ha Bytes.nil)) (hu.app (Bytes.cons hb Bytes.nil))).1 h1
   rw[kK.run_append,kK.run_append,hr]at h2;exact absurd h2 hd
 exact⟨key h h',key h' h⟩
theorem TT{m m':kK}{L:List Nat->Bool}(h:aj m L)(h':aj m' L)(b:Nat)(hb:b< 256):m.cell b=m'.cell b:=by
 induction b using Nat.strongRecOn with
 | ind b ih=>
  have key:∀ {m m':kK},aj m L->aj m' L->(∀ a,a< b->m.cell a=m'.cell a)->¬ m.cell b< m'.cell b:=fun {m m'} h h' ih hlt=>by
   obtain⟨a,ha,e⟩:=h'.cfirst b hb _ hlt
   have h1:m.cell a=m.cell b:=by rw[ih a ha,e]
   have h2:=(xX h h' (by omega) hb).1 h1
   omega
  have h1:=key h h' fun a ha=>ih a ha (by omega)
  have h2:=key h' h fun a ha=>(ih a ha (by omega)).symm
  omega
theorem IX{m m':kK}{L:List Nat->Bool}(h:aj m L)(h':aj m' L):m.nc=m'.nc:=by
 have key:∀ {m m':kK},aj m L->aj m' L->m.nc<=m'.nc:=fun {m m'} h h'=>by
  obtain⟨b,hb,e⟩:=h.conto (m.nc - 1) (by have:=h.cpos;omega)
  have h1:=h'.cellOK b hb
  rw[<-TT h h' b hb]at h1
  omega
 exact Nat.le_antisymm (key h h') (key h' h)

theorem least{P:Nat->Prop}(h:∃ p,P p):∃ p,P p/\∀ q,q< p->¬ P q:=by
 obtain⟨p,hp⟩:=h
 induction p using Nat.strongRecOn with
 | ind p ih=>
  by_cases hx:∃ q,q< p/\P q
  ·obtain⟨q,hq,hPq⟩:=hx
   exact ih q hq hPq
  ·exact⟨p,hp,fun q hq hPq=>hx ⟨q,hq,hPq⟩⟩
theorem YT{nc t c t' c':Nat}(hc:c< nc)(hc':c'< nc):t*nc+c< t'*nc+c'↔t< t'\/t=t'/\c< c':=by
 constructor
 ·intro h
  rcases Nat.lt_trichotomy t t' with h1|h1|h1
  ·exact .inl h1
  ·subst h1;exact .inr ⟨rfl,by omega⟩
  ·exfalso
   have:(t'+1)*nc<=t*nc:=Nat.mul_le_mul_right nc h1
   rw[Nat.add_mul]at this
   omega
 ·rintro (h1|⟨rfl,h1⟩)
  ·have:(t+1)*nc<=t'*nc:=Nat.mul_le_mul_right nc h1
   rw[Nat.add_mul]at this
   omega
  ·omega
theorem zsc{m:kK}{L:List Nat->Bool}(h:aj m L){k:Nat}(h0:0< k)(hk:k< m.n):∃ t c,t< k/\c< m.nc/\m.next t c=k/\∀ t' c',t'< m.n->c'< m.nc->(t'< t\/t'=t/\c'< c)->m.next t' c'≠k:=by
 obtain⟨t0,c0,ht0,hc0,e0⟩:=h.onto k h0 hk;obtain⟨p,⟨t,c,hp,hc,htn,e⟩,hmin⟩:=least (P:=fun p=>∃ t c,p=t*m.nc+c/\c< m.nc/\t< m.n/\m.next t c=k) ⟨t0*m.nc+c0,t0,c0,rfl,hc0,by omega,e0⟩
 have hle:t<=t0:=by
  rcases Nat.lt_or_ge t0 t with hlt|hge
  ·exfalso
   have h1:=(YT (t:=t0) (t':=t) hc0 hc).2 (.inl hlt)
   exact hmin _ (hp▸h1) ⟨t0,c0,rfl,hc0,by omega,e0⟩
  ·exact hge
 refine⟨t,c,by omega,hc,e,fun t' c' ht' hc' hlt e'=>?_⟩;exact hmin _ (hp▸(YT hc' hc).2 hlt) ⟨t',c',rfl,hc',ht',e'⟩

theorem TU{m m':kK}{L:List Nat->Bool}(h:aj m L)(h':aj m' L):∀ k,∀ u,Bytes u->m.run 0 u=k->m'.run 0 u=k:=by
 have hnc:=IX h h'
 intro k
 induction k using Nat.strongRecOn with
 | ind k ih=>
  intro u hu hk
  have hklt:k< m.n:=by rw[<-hk];exact Br h u 0 h.pos hu
  by_cases h0:k=0
  ·subst h0
   exact(UE h h' hu Bytes.nil).1 hk
  ·obtain⟨q,hq⟩:∃ q,m'.run 0 u=q:=⟨_,rfl⟩
   have hqlt:q< m'.n:=by rw[<-hq];exact Br h' u 0 h'.pos hu
   have low:∀ t,t< k->∃ w,Bytes w/\m.run 0 w=t/\m'.run 0 w=t:=fun t ht=>by
    obtain⟨w,hw,e⟩:=reach h t (by omega);exact⟨w,hw,e,ih t ht w hw e⟩
   have hge:k<=q:=by
    rcases Nat.lt_or_ge q k with hlt|hge
    ·obtain⟨w,hw,e1,e2⟩:=low q hlt
     have:=(UE h h' hu hw).2 (by rw[hq,e2])
     omega
    ·exact hge
   -- what a place of a low row names in both
   have both:∀ t c,t< k->c< m.nc->∃ v,Bytes v/\m.run 0 v=m.next t c/\m'.run 0 v=m'.next t c:=fun t c ht hc=>by
    obtain⟨w,hw,e1,e2⟩:=low t ht;obtain⟨b,hb,hcb⟩:=h.conto c hc
    have hcb':m'.cell b=c:=by rw[<-TT h h' b hb];exact hcb
    refine⟨w++[b],hw.app (Bytes.cons hb Bytes.nil),?_,?_⟩
    ·rw[kK.run_append,e1]
     show m.next t (m.cell b)=m.next t c
     rw[hcb]
    ·rw[kK.run_append,e2]
     show m'.next t (m'.cell b)=m'.next t c
     rw[hcb']
   obtain⟨t,c,ht,hc,e,hmin⟩:=zsc h (by omega) hklt;obtain⟨v,hv,e1,e2⟩:=both t c ht hc
   have e3:m'.next t c=q:=by rw[<-e2, <-hq];exact(UE h h' hv hu).1 (by rw[e1,e,hk])
   rcases Nat.lt_or_ge k q with hlt|hge2
   ·exfalso
    obtain⟨w,hw,e4,e5⟩:=low t ht
    have ht':t< m'.n:=by rw[<-e5];exact Br h' w 0 h'.pos hw
    obtain⟨t2,d,ht2,hd,hahead,e6⟩:=h'.first t c ht' (by omega) k (by omega) (by omega)
    have ht2k:t2< k:=by omega
    obtain⟨v2,hv2,e7,e8⟩:=both t2 d ht2k (by omega)
    have hne:=hmin t2 d (by omega) (by omega) hahead
    rcases Nat.lt_trichotomy (m.next t2 d) k with hr|hr|hr
    ·have:=ih _ hr v2 hv2 e7
     omega
    ·exact hne hr
    ·obtain⟨t3,d3,ht3,hd3,hahead3,e9⟩:=h.first t2 d (by omega) (by omega) k (by omega) hr
     exact hmin t3 d3 ht3 hd3 (by omega) e9
   ·rw[hq];omega
theorem xO{m m':kK}{L:List Nat->Bool}(h:aj m L)(h':aj m' L):m.n=m'.n/\m.nc=m'.nc/\(∀ b,b< 256->m.cell b=m'.cell b)/\(∀ s c,s< m.n->c< m.nc->m.next s c=m'.next s c)/\∀ s,s< m.n->m.acc s=m'.acc s:=by
 have hnc:=IX h h'
 have hn:∀ {m m':kK},aj m L->aj m' L->m.n<=m'.n:=fun {m m'} h h'=>by
  obtain⟨w,hw,e⟩:=reach h (m.n - 1) (by have:=h.pos;omega)
  have h1:=TU h h' _ w hw e
  have h2:=Br h' w 0 h'.pos hw
  omega
 refine⟨Nat.le_antisymm (hn h h') (hn h' h),hnc,fun b hb=>TT h h' b hb,fun s c hs hc=>?_,fun s hs=>?_⟩
 ·obtain⟨w,hw,e⟩:=reach h s hs
  have e':=TU h h' _ w hw e
  obtain⟨b,hb,hcb⟩:=h.conto c hc
  have hcb':m'.cell b=c:=by rw[<-TT h h' b hb];exact hcb
  have h1:m.run 0 (w++[b])=m.next s c:=by
   rw[kK.run_append,e]
   show m.next s (m.cell b)=m.next s c
   rw[hcb]
  have h2:m'.run 0 (w++[b])=m'.next s c:=by
   rw[kK.run_append,e']
   show m'.next s (m'.cell b)=m'.next s c
   rw[hcb']
  rw[<-h2];exact(TU h h' _ _ (hw.app (Bytes.cons hb Bytes.nil)) h1).symm
 ·obtain⟨w,hw,e⟩:=reach h s hs
  have e':=TU h h' _ w hw e
  have h1:=h.lang w hw
  have h2:=h'.lang w hw
  rw[kK.lang,e]at h1;rw[kK.lang,e']at h2;rw[h1,h2]
end Go.Aut

namespace Go.Aut
def je(o:List Nat)(x:Nat):List Nat:=if x∈o then o else o++[x]
def aP(f:Nat->Nat->Nat)(nc b0:Nat):Nat->List Nat
 |0=>[b0]
 |p+1=>je (aP f nc b0 p) (f ((aP f nc b0 p).getD (p / nc) 0) (p%nc))
section
variable {f:Nat->Nat->Nat} {nc b0:Nat}
theorem zxt{o:List Nat}(h:o.Nodup)(x:Nat):(je o x).Nodup:=by
 unfold je
 split
 ·exact h
 ·rename_i hx
  rw[List.nodup_append];exact⟨h,by simp,fun a ha b hb e=>hx (by rw[List.mem_singleton.1 hb]at e;exact e▸ha)⟩
theorem zsd(o:List Nat)(x:Nat):∃ r,je o x=o++r:=by
 unfold je
 split
 ·exact⟨[],by simp⟩
 ·exact⟨[x],rfl⟩
theorem YU(o:List Nat)(x:Nat):x∈je o x:=by
 unfold je
 split
 ·assumption
 ·simp
theorem Lg:∀ p,(aP f nc b0 p).Nodup
 |0=>by simp[aP]
 |p+1=>zxt (Lg p) _
theorem La:∀ (p q:Nat),p<=q->∃ r,aP f nc b0 q=aP f nc b0 p++r
 |p,0,h=>⟨[],by rw[Nat.le_zero.1 h];simp⟩
 | p,q+1,h=>by
  by_cases e:p=q+1
  ·subst e;exact⟨[],by simp⟩
  ·obtain⟨r,hr⟩:=La p q (by omega)
   obtain⟨r2,hr2⟩:=zsd (aP f nc b0 q) (f ((aP f nc b0 q).getD (q / nc) 0) (q%nc));exact⟨r++r2,by rw[aP,hr2,hr,List.append_assoc]⟩
theorem Bf{p q:Nat}(h:p<=q):(aP f nc b0 p).length<=(aP f nc b0 q).length:=by
 obtain⟨r,hr⟩:=La (f:=f) (nc:=nc) (b0:=b0) p q h;rw[hr,List.length_append];omega
theorem Lm{p q i:Nat}(h:p<=q)(hi:i< (aP f nc b0 p).length):(aP f nc b0 q).getD i 0=(aP f nc b0 p).getD i 0:=by
 obtain⟨r,hr⟩:=La (f:=f) (nc:=nc) (b0:=b0) p q h;rw[hr,List.getD_eq_getElem?_getD,List.getD_eq_getElem?_getD,List.getElem?_append_left hi]
def tgt(f:Nat->Nat->Nat)(nc b0 p:Nat):Nat:=f ((aP f nc b0 p).getD (p / nc) 0) (p%nc)
theorem CY{p q:Nat}(h:p< q):tgt f nc b0 p∈aP f nc b0 q:=by
 obtain⟨r,hr⟩:=La (f:=f) (nc:=nc) (b0:=b0) (p+1) q h;rw[hr];exact List.mem_append_left _ (YU _ _)
theorem given{p v:Nat}(h0:0< v)(h:v< (aP f nc b0 p).length):∃ q,q< p/\(aP f nc b0 q).length=v/\(aP f nc b0 p).getD v 0=tgt f nc b0 q:=by
 induction p with
 |zero=>simp[aP]at h;omega
 | succ p ih=>
  rcases Nat.lt_or_ge v (aP f nc b0 p).length with hlt|hge
  ·obtain⟨q,hq,h1,h2⟩:=ih hlt
   exact⟨q,by omega,h1,by rw[Lm (Nat.le_succ p) hlt,h2]⟩
  ·have h1:aP f nc b0 (p+1)=je (aP f nc b0 p) (tgt f nc b0 p):=rfl
   rw[h1]at h ⊢;unfold je at h ⊢
   split at h
   ·omega
   ·rename_i hx
    rw[if_neg hx];rw[List.length_append,List.length_singleton]at h
    have hv:v=(aP f nc b0 p).length:=by omega
    refine⟨p,Nat.lt_succ_self p,hv.symm,?_⟩;rw[hv,List.getD_eq_getElem?_getD,List.getElem?_append_right (Nat.le_refl _),Nat.sub_self]
    rfl
theorem TV{o:List Nat}{x:Nat}(h:x∈o):o.idxOf x< o.length/\o.getD (o.idxOf x) 0=x:=by
 have hlt:o.idxOf x< o.length:=List.idxOf_lt_length_of_mem h
 refine⟨hlt,?_⟩;rw[List.getD_eq_getElem?_getD,List.getElem?_eq_getElem hlt,Option.getD_some];exact List.getElem_idxOf hlt
theorem PU{o:List Nat}(h:o.Nodup){i:Nat}(hi:i< o.length):o.idxOf (o.getD i 0)=i:=by
 rw[List.getD_eq_getElem?_getD,List.getElem?_eq_getElem hi,Option.getD_some];exact h.idxOf_getElem i hi
structure kW(f:Nat->Nat->Nat)(nc b0 n:Nat):Prop where
 pos:0< nc
 len:(aP f nc b0 (n*nc)).length=n
 ahead:∀ i,i< n->i< (aP f nc b0 (i*nc)).length
def num(f:Nat->Nat->Nat)(nc b0 n s c:Nat):Nat:=(aP f nc b0 (n*nc)).idxOf (f ((aP f nc b0 (n*nc)).getD s 0) c)
theorem Xc{nc s c:Nat}(h:0< nc)(hc:c< nc):(s*nc+c) / nc=s/\(s*nc+c)%nc=c:=by
 rw[Nat.mul_comm];exact⟨by rw[Nat.mul_add_div h,Nat.div_eq_of_lt hc,Nat.add_zero],by rw[Nat.mul_add_mod,Nat.mod_eq_of_lt hc]⟩
theorem NC{nc n s c:Nat}(hs:s< n)(hc:c< nc):s*nc+c< n*nc:=by
 have:(s+1)*nc<=n*nc:=Nat.mul_le_mul_right nc hs
 rw[Nat.add_mul]at this
 omega
theorem JW{n s c:Nat}(h:kW f nc b0 n)(hs:s< n)(hc:c< nc):tgt f nc b0 (s*nc+c)=f ((aP f nc b0 (n*nc)).getD s 0) c:=by
 obtain⟨h1,h2⟩:=Xc (s:=s) h.pos hc
 have h3:s< (aP f nc b0 (s*nc+c)).length:=Nat.lt_of_lt_of_le (h.ahead s hs) (Bf (Nat.le_add_right _ _))
 rw[tgt,h1,h2,Lm (Nat.le_of_lt (NC hs hc)) h3]
theorem Nh{n s c:Nat}(h:kW f nc b0 n)(hs:s< n)(hc:c< nc):num f nc b0 n s c< n/\(aP f nc b0 (n*nc)).getD (num f nc b0 n s c) 0=f ((aP f nc b0 (n*nc)).getD s 0) c:=by
 have hm:f ((aP f nc b0 (n*nc)).getD s 0) c∈aP f nc b0 (n*nc):=by
  rw[<-JW h hs hc];exact CY (NC hs hc)
 obtain⟨h1,h2⟩:=TV hm;exact⟨by rw[h.len]at h1;exact h1,h2⟩
theorem zzv{n s c v:Nat}(h:kW f nc b0 n)(hs:s< n)(hc:c< nc)(h0:0< v)(hv:v< num f nc b0 n s c):∃ t d,t< n/\d< nc/\(t< s\/t=s/\d< c)/\num f nc b0 n t d=v:=by
 obtain⟨h1,h2⟩:=Nh h hs hc
 have hnd:=Lg (f:=f) (nc:=nc) (b0:=b0) (n*nc)
 -- v blocks and more are there at this place
 have hin:tgt f nc b0 (s*nc+c)∈aP f nc b0 (s*nc+c+1):=CY (Nat.lt_succ_self _)
 obtain⟨h3,h4⟩:=TV hin
 have hle:s*nc+c+1<=n*nc:=NC hs hc
 have h5:num f nc b0 n s c=(aP f nc b0 (s*nc+c+1)).idxOf (tgt f nc b0 (s*nc+c)):=by
  have h6:(aP f nc b0 (n*nc)).getD ((aP f nc b0 (s*nc+c+1)).idxOf (tgt f nc b0 (s*nc+c))) 0=tgt f nc b0 (s*nc+c):=by rw[Lm hle h3,h4]
  have h7:=PU hnd (i:=(aP f nc b0 (s*nc+c+1)).idxOf (tgt f nc b0 (s*nc+c))) (Nat.lt_of_lt_of_le h3 (Bf hle))
  rw[h6,JW h hs hc]at h7;rw[num,h7,JW h hs hc]
 have hvp:v< (aP f nc b0 (s*nc+c)).length:=by
  have h8:(aP f nc b0 (s*nc+c+1)).length<=(aP f nc b0 (s*nc+c)).length+1:=by
   show(je _ _).length<=_
   unfold je
   split
   ·omega
   ·rw[List.length_append,List.length_singleton];omega
  omega
 obtain⟨q,hq,h9,h10⟩:=given h0 hvp
 have hqn:q< n*nc:=by omega
 have hpos:=h.pos
 have hdiv:=Nat.div_add_mod q nc
 have hd:q%nc< nc:=Nat.mod_lt _ hpos
 have ht:q / nc< n:=(Nat.div_lt_iff_lt_mul hpos).2 hqn
 have hqe:q / nc*nc+q%nc=q:=by rw[Nat.mul_comm];exact hdiv
 refine⟨q / nc,q%nc,ht,hd,(YT hd hc).1 (by rw[hqe];exact hq),?_⟩
 have h11:=JW h ht hd
 rw[hqe]at h11;rw[num, <-h11, <-h10, <-Lm (Nat.le_of_lt (NC hs hc)) hvp];exact PU hnd (by rw[h.len];omega)
theorem ze{n s:Nat}(h:kW f nc b0 n)(h0:0< s)(hs:s< n):∃ t c,t< s/\c< nc/\num f nc b0 n t c=s:=by
 have hnd:=Lg (f:=f) (nc:=nc) (b0:=b0) (n*nc)
 obtain⟨q,hq,h1,h2⟩:=given (f:=f) (nc:=nc) (b0:=b0) (p:=n*nc) h0 (by rw[h.len];exact hs)
 have hpos:=h.pos
 have hdiv:=Nat.div_add_mod q nc
 have hd:q%nc< nc:=Nat.mod_lt _ hpos
 have ht:q / nc< n:=(Nat.div_lt_iff_lt_mul hpos).2 hq
 have hqe:q / nc*nc+q%nc=q:=by rw[Nat.mul_comm];exact hdiv
 have h11:=JW h ht hd
 rw[hqe]at h11;refine⟨q / nc,q%nc,?_,hd,?_⟩
 ·have h3:=h.ahead _ ht
  have h4:=Bf (f:=f) (nc:=nc) (b0:=b0) (show q / nc*nc<=q by omega)
  omega
 ·rw[num, <-h11, <-h2]
  exact PU hnd (by rw[h.len];exact hs)
end
end Go.Aut

namespace Go.Aut
structure iG where
 δ:Nat->Nat->Nat
 acc:Nat->Bool
 cell:Nat->Nat
 nc:Nat
namespace iG
def run(t:iG):Nat->List Nat->Nat
 |s,[]=>s
 |s,b::w=>run t (t.δ s (t.cell b)) w
def lang(t:iG)(s:Nat)(w:List Nat):Bool:=t.acc (t.run s w)
theorem run_append(t:iG):∀ (s:Nat) (u v:List Nat),t.run s (u++v)=t.run (t.run s u) v
 |s,[],v=>rfl
 |s,b::u,v=>run_append t _ u v
end iG
structure Ck(t:iG)(R:Nat->Prop)(block reps:Nat->Nat)(k:Nat)(of rep:Nat->Nat)(nc:Nat):Prop where
 zero:R 0
 closed:∀ s c,R s->c< t.nc->R (t.δ s c)
 reach:∀ s,R s->∃ w,Bytes w/\t.run 0 w=s
 cellOK:∀ b,b< 256->t.cell b< t.nc
 byte:∀ c,c< t.nc->∃ b,b< 256/\t.cell b=c
 blk:∀ s,R s->block s< k
 repsOK:∀ i,i< k->R (reps i)/\block (reps i)=i
 stable:∀ s q,R s->R q->block s=block q->t.acc s=t.acc q/\∀ c,c< t.nc->block (t.δ s c)=block (t.δ q c)
 sep:∀ s q,R s->R q->block s≠block q->∃ w,Bytes w/\t.lang s w≠t.lang q w
 npos:0< nc
 ofOK:∀ c,c< t.nc->of c< nc
 repOK:∀ j,j< nc->rep j< t.nc/\of (rep j)=j
 ofEq:∀ c d,c< t.nc->d< t.nc->(of c=of d↔∀ i,i< k->block (t.δ (reps i) c)=block (t.δ (reps i) d))
 cfirst:∀ b,b< 256->∀ v,v< of (t.cell b)->∃ a,a< b/\of (t.cell a)=v
section
variable {t:iG} {R:Nat->Prop} {block reps:Nat->Nat} {k:Nat} {of rep:Nat->Nat} {nc:Nat}
def bf(t:iG)(block reps rep:Nat->Nat)(x j:Nat):Nat:=block (t.δ (reps x) (rep j))
def xN(t:iG)(block reps of rep:Nat->Nat)(nc n:Nat):kK:=
 { n:=n,nc:=nc,cell:=fun b=>of (t.cell b),next:=num (bf t block reps rep) nc (block 0) n,acc:=fun s=>t.acc (reps ((aP (bf t block reps rep) nc (block 0) (n*nc)).getD s 0)) }
theorem Ck.runR(h:Ck t R block reps k of rep nc):∀ (w:List Nat) (s:Nat),R s->Bytes w->R (t.run s w)
 |[],s,hs,_=>hs
 |b::w,s,hs,hw=>Ck.runR h w _ (h.closed _ _ hs (h.cellOK b (hw b List.mem_cons_self))) fun x hx=>hw x (List.mem_cons_of_mem _ hx)
theorem Ni(h:Ck t R block reps k of rep nc):∀ p,∀ x∈aP (bf t block reps rep) nc (block 0) p,x< k
 |0,x,hx=>by rw[List.mem_singleton.1 hx];exact h.blk 0 h.zero
 | p +1,x,hx=>by
  rw[aP]at hx;unfold je at hx
  have ih:=Ni h p
  split at hx
  ·exact ih x hx
  ·rcases List.mem_append.1 hx with hx|hx
   ·exact ih x hx
   ·rw[List.mem_singleton.1 hx]
    have hk0:0< k:=Nat.lt_of_le_of_lt (Nat.zero_le _) (h.blk 0 h.zero)
    have hg:(aP (bf t block reps rep) nc (block 0) p).getD (p / nc) 0< k:=by
     rw[List.getD_eq_getElem?_getD]
     cases e:(aP (bf t block reps rep) nc (block 0) p)[p / nc]? with
     |none=>exact hk0
     |some y=>exact ih y (List.mem_of_getElem? e)
    exact h.blk _ (h.closed _ _ (h.repsOK _ hg).1 (h.repOK _ (Nat.mod_lt _ h.npos)).1)
theorem Yz(h:Ck t R block reps k of rep nc){n:Nat}(hc:kW (bf t block reps rep) nc (block 0) n):∀ (w:List Nat) (s q:Nat),Bytes w->s< n->R q->(aP (bf t block reps rep) nc (block 0) (n*nc)).getD s 0=block q->
  (xN t block reps of rep nc n).run s w< n/\(aP (bf t block reps rep) nc (block 0) (n*nc)).getD ((xN t block reps of rep nc n).run s w) 0=block (t.run q w)
 |[],s,q,_,hs,_,e=>⟨hs,e⟩
 |b::w,s,q,hw,hs,hq,e=>by
  have hb:=hw b List.mem_cons_self
  have hcb:=h.cellOK b hb
  have hof:=h.ofOK _ hcb
  obtain⟨h1,h2⟩:=Nh hc hs hof
  have hq2:=h.closed _ _ hq hcb
  refine Yz h hc w _ _ (fun x hx=>hw x (List.mem_cons_of_mem _ hx)) h1 hq2 ?_
  show(aP (bf t block reps rep) nc (block 0) (n*nc)).getD (num (bf t block reps rep) nc (block 0) n s (of (t.cell b))) 0=_
  rw[h2,e,bf]
  have hk:=h.blk q hq
  obtain⟨hr1,hr2⟩:=h.repOK _ hof;rw[(h.ofEq _ _ hr1 hcb).1 hr2 _ hk];exact(h.stable _ _ (h.repsOK _ hk).1 hq (h.repsOK _ hk).2).2 _ hcb
theorem YV(h:Ck t R block reps k of rep nc){n:Nat}(hc:kW (bf t block reps rep) nc (block 0) n){w:List Nat}{s q:Nat}(hw:Bytes w)(hs:s< n)(hq:R q)(e:(aP (bf t block reps rep) nc (block 0) (n*nc)).getD s 0=block q):
  (xN t block reps of rep nc n).lang s w=t.lang q w:=by
 obtain⟨h1,h2⟩:=Yz h hc w s q hw hs hq e
 have hr:=h.runR w q hq hw
 have hk:=h.blk _ hr
 show t.acc (reps ((aP (bf t block reps rep) nc (block 0) (n*nc)).getD ((xN t block reps of rep nc n).run s w) 0))=t.acc (t.run q w)
 rw[h2];exact(h.stable _ _ (h.repsOK _ hk).1 hr (h.repsOK _ hk).2).1
theorem YW{f:Nat->Nat->Nat}{nc b0 p:Nat}:(aP f nc b0 p).getD 0 0=b0:=by
 rw[Lm (Nat.zero_le p) (by simp[aP])];rfl
theorem zpu(h:Ck t R block reps k of rep nc){n:Nat}(hc:kW (bf t block reps rep) nc (block 0) n):aj (xN t block reps of rep nc n) (t.lang 0):=by
 have hn:0< n:=by
  rw[<-hc.len];obtain⟨r,hr⟩:=La (f:=bf t block reps rep) (nc:=nc) (b0:=block 0) 0 (n*nc) (Nat.zero_le _);rw[hr];simp[aP]
 have hget:∀ s,s< n->(aP (bf t block reps rep) nc (block 0) (n*nc)).getD s 0< k:=fun s hs=>by
  rw[List.getD_eq_getElem?_getD,List.getElem?_eq_getElem (by rw[hc.len];exact hs),Option.getD_some];exact Ni h _ _ (List.getElem_mem _)
 have hself:∀ s,s< n->R (reps ((aP (bf t block reps rep) nc (block 0) (n*nc)).getD s 0))/\(aP (bf t block reps rep) nc (block 0) (n*nc)).getD s 0=block (reps ((aP (bf t block reps rep) nc (block 0) (n*nc)).getD s 0)):=fun s hs=>
  ⟨(h.repsOK _ (hget s hs)).1,(h.repsOK _ (hget s hs)).2.symm⟩
 have hall:∀ i,i< k->∃ s,s< n/\(aP (bf t block reps rep) nc (block 0) (n*nc)).getD s 0=i:=fun i hi=>by
  obtain⟨hR,hb⟩:=h.repsOK i hi;obtain⟨w,hw,e⟩:=h.reach _ hR;obtain⟨h1,h2⟩:=Yz h hc w 0 0 hw hn h.zero YW;exact⟨_,h1,by rw[h2,e,hb]⟩
 refine⟨hn,h.npos,fun b hb=>h.ofOK _ (h.cellOK b hb),fun s c hs hcc=>(Nh hc hs hcc).1,fun w hw=>YV h hc hw hn h.zero YW,fun s q hs hq hne=>?_,fun c d hcc hd hne=>?_,h.cfirst,fun c hcc=>?_,fun s c hs hcc v h0 hv=>zzv hc hs hcc h0 hv,fun s h0 hs=>ze hc h0 hs⟩
 ·obtain⟨hR1,e1⟩:=hself s hs
  obtain⟨hR2,e2⟩:=hself q hq
  have hnd:=Lg (f:=bf t block reps rep) (nc:=nc) (b0:=block 0) (n*nc)
  have hb:block (reps ((aP (bf t block reps rep) nc (block 0) (n*nc)).getD s 0))≠block (reps ((aP (bf t block reps rep) nc (block 0) (n*nc)).getD q 0)):=fun e=>by
   rw[<-e1, <-e2]at e
   have h1:=PU hnd (i:=s) (by rw[hc.len];exact hs)
   have h2:=PU hnd (i:=q) (by rw[hc.len];exact hq)
   rw[e,h2]at h1;exact hne h1.symm
  obtain⟨w,hw,hd⟩:=h.sep _ _ hR1 hR2 hb;refine⟨w,hw,?_⟩;rw[YV h hc hw hs hR1 e1,YV h hc hw hq hR2 e2];exact hd
 ·have hcc':c< nc:=hcc
  have hd':d< nc:=hd
  obtain⟨hc1,hc2⟩:=h.repOK c hcc';obtain⟨hd1,hd2⟩:=h.repOK d hd'
  have hne2:¬ ∀ i,i< k->block (t.δ (reps i) (rep c))=block (t.δ (reps i) (rep d)):=fun hh=>hne (by rw[<-hc2, <-hd2];exact(h.ofEq _ _ hc1 hd1).2 hh)
  obtain⟨i,hi⟩:=Classical.not_forall.1 hne2;obtain⟨hik,hi⟩:=Classical.not_imp.1 hi;obtain⟨s,hs,es⟩:=hall i hik;refine⟨s,hs,fun e=>hi ?_⟩
  have h1:=(Nh hc hs hcc').2
  have h2:=(Nh hc hs hd').2
  have e':num (bf t block reps rep) nc (block 0) n s c=num (bf t block reps rep) nc (block 0) n s d:=e
  rw[e',h2,es]at h1;exact h1.symm
 ·obtain⟨h1,h2⟩:=h.repOK c hcc
  obtain⟨b,hb,hcb⟩:=h.byte _ h1;exact⟨b,hb,by show of (t.cell b)=c;rw[hcb,h2]⟩
end
end Go.Aut

namespace Go.Aut
def fZ{K:Type}[DecidableEq K](o:List K)(x:K):List K:=if x∈o then o else o++[x]
def aY{K:Type}[DecidableEq K](key:Nat->K)(l:List Nat):List K:=l.foldl (fun o s=>fZ o (key s)) []
section
variable {K:Type} [DecidableEq K] {key:Nat->K}
theorem z41(l:List Nat)(s:Nat):aY key (l++[s])=fZ (aY key l) (key s):=by
 rw[aY,List.foldl_append];rfl
theorem zxu{o:List K}(h:o.Nodup)(x:K):(fZ o x).Nodup:=by
 unfold fZ
 split
 ·exact h
 ·rename_i hx
  rw[List.nodup_append];exact⟨h,by simp,fun a ha b hb e=>hx (by rw[List.mem_singleton.1 hb]at e;exact e▸ha)⟩
theorem wm{o:List K}{x y:K}:y∈fZ o x↔y∈o\/y=x:=by
 unfold fZ
 split
 ·rename_i hx
  exact⟨.inl,fun h=>h.elim id fun e=>e▸hx⟩
 ·simp
theorem zj0:∀ (l:List Nat) (o:List K),o.Nodup->(l.foldl (fun o s=>fZ o (key s)) o).Nodup
 |[],o,h=>h
 |s::l,o,h=>zj0 l _ (zxu h _)
theorem zpv:∀ (l:List Nat) (o:List K) (y:K),y∈l.foldl (fun o s=>fZ o (key s)) o↔y∈o\/∃ s,s∈l/\key s=y
 |[],o,y=>by simp
 | s::l,o,y=>by
  rw[List.foldl_cons,zpv l,wm]
  constructor
  ·rintro ((h|h)|⟨q,hq,e⟩)
   ·exact .inl h
   ·exact .inr ⟨s,List.mem_cons_self,h.symm⟩
   ·exact .inr ⟨q,List.mem_cons_of_mem _ hq,e⟩
  ·rintro (h|⟨q,hq,e⟩)
   ·exact .inl (.inl h)
   ·rcases List.mem_cons.1 hq with rfl|hq
    ·exact .inl (.inr e.symm)
    ·exact .inr ⟨q,hq,e⟩
theorem Gh(l:List Nat):(aY key l).Nodup:=zj0 l [] (by simp)
theorem qW(l:List Nat)(y:K):y∈aY key l↔∃ s,s∈l/\key s=y:=by rw[aY,zpv];simp
theorem vZ(l:List Nat):(aY key l).length<=l.length:=by
 have key':∀ (l:List Nat) (o:List K),(l.foldl (fun o s=>fZ o (key s)) o).length<=o.length+l.length:=by
  intro l
  induction l with
  |nil=>intro o;simp
  | cons s l ih=>
   intro o;rw[List.foldl_cons]
   have h1:=ih (fZ o (key s))
   have h2:(fZ o (key s)).length<=o.length+1:=by
    unfold fZ
    split
    ·omega
    ·simp
   simp only[List.length_cons]
   omega
 have:=key' l []
 simpa [aY]using this
def lH(key:Nat->K)(l:List Nat)(s:Nat):Nat:=(aY key l).idxOf (key s)
theorem vG{l:List Nat}{s:Nat}(h:s∈l):lH key l s< (aY key l).length:=List.idxOf_lt_length_of_mem ((qW l _).2 ⟨s,h,rfl⟩)
theorem NR{l:List Nat}{s:Nat}(h:s∈l):(aY key l)[lH key l s]? =some (key s):=by
 rw[List.getElem?_eq_getElem (vG h)];exact congrArg some (List.getElem_idxOf (vG (key:=key) h))
theorem vH{l:List Nat}{s q:Nat}(hs:s∈l)(hq:q∈l):lH key l s=lH key l q↔key s=key q:=by
 constructor
 ·intro e
  have h1:=NR (key:=key) hs
  have h2:=NR (key:=key) hq
  rw[e,h2]at h1;exact(Option.some.inj h1).symm
 ·intro e;rw[lH,lH,e]
theorem Iv{l:List Nat}{v:Nat}(h:v< (aY key l).length):∃ s,s∈l/\lH key l s=v:=by
 obtain⟨s,hs,e⟩:=(qW l _).1 (List.getElem_mem h);refine⟨s,hs,?_⟩;rw[lH,e];exact(Gh l).idxOf_getElem v h
end
theorem zky{m:List Nat}(h:∀ v,v< m.length->v∈m):m.Nodup:=by
 rw[List.nodup_iff_pairwise_ne,List.pairwise_iff_getElem];intro i j hi hj hij e
 have hsub:List.range m.length ⊆ m.take j++m.drop (j+1):=by
  intro v hv
  have h1:=h v (List.mem_range.1 hv)
  obtain⟨p,hp,ep⟩:=List.mem_iff_getElem.1 h1
  rcases Nat.lt_trichotomy p j with hpj|hpj|hpj
  ·exact List.mem_append_left _ (List.mem_iff_getElem.2 ⟨p,by rw[List.length_take];omega,by rw[List.getElem_take];exact ep⟩)
  ·subst hpj
   refine List.mem_append_left _ (List.mem_iff_getElem.2 ⟨i,by rw[List.length_take];omega,?_⟩);rw[List.getElem_take,e];exact ep
  ·refine List.mem_append_right _ (List.mem_iff_getElem.2 ⟨p - (j+1),by rw[List.length_drop];omega,?_⟩)
   rw[List.getElem_drop]
   simp only[show j+1+(p - (j+1))=p by omega]
   exact ep
 have h2:=List.Nodup.length_le_of_subset List.nodup_range hsub
 rw[List.length_range,List.length_append,List.length_take,List.length_drop]at h2
 omega
section
variable {t:iG} {l:List Nat} {block:Nat->Nat}
def kD(t:iG)(block:Nat->Nat)(s:Nat):Nat×List Nat:=(block s,(List.range t.nc).map fun c=>block (t.δ s c))
theorem Px{s q:Nat}:kD t block s=kD t block q↔block s=block q/\∀ c,c< t.nc->block (t.δ s c)=block (t.δ q c):=by
 rw[kD,kD,Prod.mk.injEq];refine and_congr Iff.rfl ⟨fun e c hc=>?_,fun e=>List.map_congr_left fun c hc=>e c (List.mem_range.1 hc)⟩
 have h1:=congrArg (fun x:List Nat=>x[c]?) e
 simpa [hc]using h1
def fu(t:iG)(l:List Nat)(block:Nat->Nat):Nat->Nat:=lH (kD t block) l
def z36(t:iG)(l:List Nat)(block:Nat->Nat):Nat:=(aY (kD t block) l).length
def nQ(t:iG)(l:List Nat)(block:Nat->Nat):Prop:=∀ s q,s∈l->q∈l->block s≠block q->∃ w,Bytes w/\t.lang s w≠t.lang q w
theorem zxv(hcl:∀ s c,s∈l->c< t.nc->t.δ s c∈l)(hby:∀ c,c< t.nc->∃ b,b< 256/\t.cell b=c)(h:nQ t l block):nQ t l (fu t l block):=fun s q hs hq hne=>by
 have h1:kD t block s≠kD t block q:=fun e=>hne ((vH hs hq).2 e)
 rw[Ne,Px]at h1
 by_cases hb:block s=block q
 ·have h2:¬ ∀ c,c< t.nc->block (t.δ s c)=block (t.δ q c):=fun hh=>h1 ⟨hb,hh⟩
  obtain⟨c,hc⟩:=Classical.not_forall.1 h2;obtain⟨hcn,hc⟩:=Classical.not_imp.1 hc;obtain⟨w,hw,hd⟩:=h _ _ (hcl s c hs hcn) (hcl q c hq hcn) hc;obtain⟨b,hb2,e⟩:=hby c hcn;refine⟨b::w,Bytes.cons hb2 hw,?_⟩
  show t.lang (t.δ s (t.cell b)) w≠t.lang (t.δ q (t.cell b)) w
  rw[e];exact hd
 ·exact h s q hs hq hb
theorem Xd{s q:Nat}(hs:s∈l)(hq:q∈l)(e:fu t l block s=fu t l block q):block s=block q/\∀ c,c< t.nc->block (t.δ s c)=block (t.δ q c):=Px.1 ((vH hs hq).1 e)
theorem zpw(hlt:∀ s,s∈l->block s< z36 t l block)(hon:∀ v,v< z36 t l block->∃ s,s∈l/\block s=v){s q:Nat}(hs:s∈l)(hq:q∈l)(e:block s=block q):fu t l block s=fu t l block q:=by
 have hnd:((aY (kD t block) l).map (·.1)).Nodup:=zky fun v hv=>by
  rw[List.length_map]at hv;obtain⟨p,hp,ep⟩:=hon v hv;exact List.mem_map.2 ⟨kD t block p,(qW l _).2 ⟨p,hp,rfl⟩,ep⟩
 have h1:=vG (key:=kD t block) hs
 have h2:=vG (key:=kD t block) hq
 have k1:((aY (kD t block) l).map (·.1))[fu t l block s]? =some (block s):=by
  rw[List.getElem?_map,fu,NR hs];rfl
 have k2:((aY (kD t block) l).map (·.1))[fu t l block q]? =some (block q):=by
  rw[List.getElem?_map,fu,NR hq];rfl
 obtain⟨a1,b1⟩:=List.getElem?_eq_some_iff.1 k1;obtain⟨a2,b2⟩:=List.getElem?_eq_some_iff.1 k2
 have c1:=hnd.idxOf_getElem _ a1
 have c2:=hnd.idxOf_getElem _ a2
 rw[b1]at c1;rw[b2, <-e]at c2;exact c1.symm.trans c2
theorem zxw{n:Nat}(hon:∀ v,v< n->∃ s,s∈l/\block s=v):n<=z36 t l block:=by
 have hsub:List.range n ⊆ (aY (kD t block) l).map (·.1):=fun v hv=>by
  obtain⟨p,hp,ep⟩:=hon v (List.mem_range.1 hv);exact List.mem_map.2 ⟨kD t block p,(qW l _).2 ⟨p,hp,rfl⟩,ep⟩
 have:=List.Nodup.length_le_of_subset List.nodup_range hsub
 rwa [List.length_range,List.length_map]at this
theorem zsf(hcl:∀ s c,s∈l->c< t.nc->t.δ s c∈l)(hacc:∀ s q,s∈l->q∈l->block s=block q->t.acc s=t.acc q)(hlt:∀ s,s∈l->block s< z36 t l block)(hon:∀ v,v< z36 t l block->∃ s,s∈l/\block s=v){s q:Nat}(hs:s∈l)(hq:q∈l)(e:fu t l block s=fu t l block q):
  t.acc s=t.acc q/\∀ c,c< t.nc->fu t l block (t.δ s c)=fu t l block (t.δ q c):=by
 obtain⟨h1,h2⟩:=Xd hs hq e;exact⟨hacc s q hs hq h1,fun c hc=>zpw hlt hon (hcl s c hs hc) (hcl q c hq hc) (h2 c hc)⟩
end
end Go.Aut

namespace Go.Aut
section
variable {t:iG} {n:Nat}
def mQ(t:iG)(n:Nat):List Nat:=aP t.δ t.nc 0 (n*t.nc)
theorem Sq:0∈mQ t n:=by
 obtain⟨r,hr⟩:=La (f:=t.δ) (nc:=t.nc) (b0:=0) 0 (n*t.nc) (Nat.zero_le _);rw[mQ,hr];simp[aP]
theorem PV(h:kW t.δ t.nc 0 n)(s c:Nat)(hs:s∈mQ t n)(hc:c< t.nc):t.δ s c∈mQ t n:=by
 obtain⟨h1,h2⟩:=TV hs
 have hi:(mQ t n).idxOf s< n:=by
  have h9:(mQ t n).length=n:=h.len
  rw[h9]at h1;exact h1
 have h3:=JW h hi hc
 have h4:tgt t.δ t.nc 0 ((mQ t n).idxOf s*t.nc+c)∈mQ t n:=CY (NC hi hc)
 rw[h3]at h4
 have h5:(aP t.δ t.nc 0 (n*t.nc)).getD ((mQ t n).idxOf s) 0=s:=h2
 rwa [h5]at h4
theorem zzw(h:kW t.δ t.nc 0 n)(hby:∀ c,c< t.nc->∃ b,b< 256/\t.cell b=c):∀ i,i< n->∃ w,Bytes w/\t.run 0 w=(mQ t n).getD i 0:=by
 intro i
 induction i using Nat.strongRecOn with
 | ind i ih=>
  intro hi
  by_cases h0:i=0
  ·subst h0
   exact⟨[],Bytes.nil,by rw[mQ,YW];rfl⟩
  ·obtain⟨q,hq,h1,h2⟩:=given (f:=t.δ) (nc:=t.nc) (b0:=0) (p:=n*t.nc) (v:=i) (by omega) (by rw[h.len];exact hi)
   have hpos:=h.pos
   have hd:q%t.nc< t.nc:=Nat.mod_lt _ hpos
   have ht:q / t.nc< n:=(Nat.div_lt_iff_lt_mul hpos).2 hq
   have hqe:q / t.nc*t.nc+q%t.nc=q:=by rw[Nat.mul_comm];exact Nat.div_add_mod q t.nc
   have h11:=JW h ht hd
   rw[hqe]at h11
   have h3:=h.ahead _ ht
   have h4:=Bf (f:=t.δ) (nc:=t.nc) (b0:=0) (show q / t.nc*t.nc<=q by omega)
   obtain⟨w,hw,e⟩:=ih (q / t.nc) (by omega) ht;obtain⟨b,hb,hcb⟩:=hby _ hd;refine⟨w++[b],hw.app (Bytes.cons hb Bytes.nil),?_⟩;rw[iG.run_append,e]
   show t.δ _ (t.cell b)=_
   rw[hcb]
   show _=(aP t.δ t.nc 0 (n*t.nc)).getD i 0
   rw[h2,h11];rfl
theorem zn0(h:kW t.δ t.nc 0 n)(hby:∀ c,c< t.nc->∃ b,b< 256/\t.cell b=c)(s:Nat)(hs:s∈mQ t n):∃ w,Bytes w/\t.run 0 w=s:=by
 obtain⟨h1,h2⟩:=TV hs
 have h9:(mQ t n).length=n:=h.len
 obtain⟨w,hw,e⟩:=zzw h hby _ (by rw[h9]at h1;exact h1);exact⟨w,hw,by rw[e,h2]⟩
end
section
variable {K:Type} [DecidableEq K] {key:Nat->K}
theorem R9:∀ (l:List Nat) (o:List K),∃ r,l.foldl (fun o s=>fZ o (key s)) o=o++r
 |[],o=>⟨[],by simp⟩
 | s::l,o=>by
  obtain⟨r,hr⟩:=R9 l (fZ o (key s))
  have h2:∃ r,fZ o (key s)=o++r:=by
   unfold fZ
   split
   ·exact⟨[],by simp⟩
   ·exact⟨[key s],rfl⟩
  obtain⟨r2,hr2⟩:=h2;exact⟨r2++r,by rw[List.foldl_cons,hr,hr2,List.append_assoc]⟩
theorem zzx{N b:Nat}(hb:b< N){v:Nat}(hv:v< lH key (List.range N) b):∃ a,a< b/\lH key (List.range N) a=v:=by
 have hsplit:List.range N=List.range b++(b::(List.range' (b+1) (N - b - 1))):=by
  rw[List.range_eq_range',List.range_eq_range', <-List.range'_succ (s:=b),show N - b - 1+1=N - b by omega]
  have:=List.range'_append (s:=0) (m:=b) (n:=N - b) (step:=1)
  rw[Nat.one_mul,Nat.zero_add,show b+(N - b)=N by omega]at this;exact this.symm
 obtain⟨r,hr⟩:=R9 (key:=key) (b::List.range' (b+1) (N - b - 1)) (aY key (List.range b))
 have hk:aY key (List.range N)=aY key (List.range b)++r:=by
  rw[aY,hsplit,List.foldl_append];exact hr
 have hlt:v< (aY key (List.range b)).length:=by
  by_cases hm:key b∈aY key (List.range b)
  ·have:lH key (List.range N) b< (aY key (List.range b)).length:=by
    rw[lH,hk,List.idxOf_append,if_pos hm];exact List.idxOf_lt_length_of_mem hm
   omega
  ·-- b's key is the next
   obtain⟨r2,hr2⟩:=R9 (key:=key) (List.range' (b+1) (N - b - 1)) (fZ (aY key (List.range b)) (key b))
   have hk2:aY key (List.range N)=(aY key (List.range b)++[key b])++r2:=by
    rw[aY,hsplit,List.foldl_append,List.foldl_cons]
    have h3:fZ (aY key (List.range b)) (key b)=aY key (List.range b)++[key b]:=by
     unfold fZ;rw[if_neg hm]
    rw[h3]at hr2
    show List.foldl _ (fZ (aY key (List.range b)) (key b)) _=_
    rw[h3];exact hr2
   have:lH key (List.range N) b=(aY key (List.range b)).length:=by
    rw[lH,hk2,List.append_assoc,List.idxOf_append,if_neg hm]
    simp
   omega
 obtain⟨a,ha,e⟩:=(qW (key:=key) (List.range b) _).1 (List.getElem_mem hlt);refine⟨a,List.mem_range.1 ha,?_⟩
 have hnd:=Gh (key:=key) (List.range N)
 have hlt':v< (aY key (List.range N)).length:=by rw[hk,List.length_append];omega
 have e2:(aY key (List.range N))[v]=key a:=by
  rw[e]
  simp only[hk]
  rw[List.getElem_append_left hlt]
 have h5:=hnd.idxOf_getElem v hlt'
 rw[e2]at h5;exact h5
end
def fF{K:Type}[DecidableEq K](o:List K)(x:K):Nat:=o.idxOf x
theorem Py{K:Type}[DecidableEq K]{o:List K}{x:K}(h:x∈o):fF o x< o.length:=List.idxOf_lt_length_of_mem h
theorem zut{K:Type}[DecidableEq K]{o:List K}{x:K}(h:x∈o):o[fF o x]? =some x:=List.getElem?_eq_some_iff.2 ⟨Py h,List.getElem_idxOf (Py h)⟩
theorem ZA{K:Type}[DecidableEq K]{key:Nat->K}{l:List Nat}{s:Nat}:lH key l s=fF (aY key l) (key s):=rfl
section
variable {t:iG} {n:Nat} {block reps:Nat->Nat} {k:Nat}
def dm:List Nat:=List.range 256
theorem z57{b:Nat}:b∈dm↔b< 256:=List.mem_range
def jX(t:iG)(block reps:Nat->Nat)(k:Nat)(c:Nat):List Nat:=(List.range k).map fun i=>block (t.δ (reps i) c)
theorem zzy{c d:Nat}:jX t block reps k c=jX t block reps k d↔∀ i,i< k->block (t.δ (reps i) c)=block (t.δ (reps i) d):=by
 refine⟨fun e i hi=>?_,fun e=>List.map_congr_left fun i hi=>e i (List.mem_range.1 hi)⟩
 have h1:=congrArg (fun x:List Nat=>x[i]?) e
 simpa [jX,hi]using h1
def keyBy(t:iG)(block reps:Nat->Nat)(k:Nat)(b:Nat):List Nat:=jX t block reps k (t.cell b)
def mG(t:iG)(block reps:Nat->Nat)(k:Nat)(c:Nat):Nat:=fF (aY (keyBy t block reps k) dm) (jX t block reps k c)
def l9(t:iG)(block reps:Nat->Nat)(k:Nat):Nat:=(aY (keyBy t block reps k) dm).length
theorem zxx{K:Type}[DecidableEq K]{key:Nat->K}{b:Nat}(hb:b< 256){v:Nat}(hv:v< lH key dm b):∃ a,a< b/\lH key dm a=v:=by
 unfold dm at hv ⊢;exact zzx hb hv
attribute [local irreducible] dm
theorem QV(b:Nat):mG t block reps k (t.cell b)=lH (keyBy t block reps k) dm b:=ZA.symm
theorem zzz{b:Nat}(hb:b< 256){v:Nat}(hv:v< mG t block reps k (t.cell b)):∃ a,a< b/\mG t block reps k (t.cell a)=v:=by
 rw[QV]at hv;obtain⟨a,ha,e⟩:=zxx hb hv;exact⟨a,ha,by rw[QV];exact e⟩
theorem AB(h:kW t.δ t.nc 0 n)(hcell:∀ b,b< 256->t.cell b< t.nc)(hby:∀ c,c< t.nc->∃ b,b< 256/\t.cell b=c)
  (hblk:∀ s,s∈mQ t n->block s< k) (hreps:∀ i,i< k->reps i∈mQ t n/\block (reps i)=i)
  (hst:∀ s q,s∈mQ t n->q∈mQ t n->block s=block q->t.acc s=t.acc q/\∀ c,c< t.nc->block (t.δ s c)=block (t.δ q c))
  (hsnd:nQ t (mQ t n) block) {rep:Nat->Nat} (hrep:∀ j,j< l9 t block reps k->rep j< t.nc/\mG t block reps k (rep j)=j):
  Ck t (· ∈mQ t n) block reps k (mG t block reps k) rep (l9 t block reps k):=by
 have hin:∀ c,c< t.nc->jX t block reps k c∈aY (keyBy t block reps k) dm:=fun c hc=>by
  obtain⟨b,hb,e⟩:=hby c hc;exact(qW _ _).2 ⟨b,z57.2 hb,by rw[keyBy,e]⟩
 refine⟨Sq,fun s c hs hc=>PV h s c hs hc,fun s hs=>zn0 h hby s hs,hcell,hby,hblk,hreps,hst,hsnd,?_,fun c hc=>Py (hin c hc),hrep,fun c d hc hd=>?_,fun b hb v hv=>?_⟩
 ·rw[l9]
  exact List.length_pos_of_mem (hin 0 h.pos)
 ·rw[<-zzy]
  refine⟨fun e=>?_,fun e=>by rw[mG,mG,e]⟩
  have g1:=zut (hin c hc)
  have g2:=zut (hin d hd)
  have e':fF (aY (keyBy t block reps k) dm) (jX t block reps k c)=fF (aY (keyBy t block reps k) dm) (jX t block reps k d):=e
  rw[e',g2]at g1;exact(Option.some.inj g1).symm
 ·exact zzz hb hv
end
end Go.Aut

namespace Go.Aut
def Fs{S:Type}(f:S->Nat->S):S->List Nat->S
 |s,[]=>s
 |s,k::w=>Fs f (f s k) w
def runN(d:Nat->Nat->Nat):Nat->List Nat->Nat
 |s,[]=>s
 |s,k::w=>runN d (d s k) w
theorem SK{i k nc:Nat}(hk:k< nc):(i*nc+k) / nc=i/\(i*nc+k)%nc=k:=by
 have h:0< nc:=by omega
 rw[Nat.mul_comm,Nat.mul_add_div h,Nat.div_eq_of_lt hk,Nat.add_zero,Nat.mul_add_mod,Nat.mod_eq_of_lt hk];exact⟨rfl,rfl⟩
section
variable {S:Type} [DecidableEq S]
def iq(o:List S)(x:S):List S:=if x∈o then o else o++[x]
def jq(o:List S)(x:S):Nat:=o.idxOf x
theorem Pz{o:List S}{x:S}(h:x∈o):jq o x< o.length:=List.idxOf_lt_length_of_mem h
theorem zuu{o:List S}{x:S}(h:x∈o):o[jq o x]? =some x:=List.getElem?_eq_some_iff.2 ⟨Pz h,List.getElem_idxOf (Pz h)⟩
theorem y00{o:List S}(hn:o.Nodup){i:Nat}{x:S}(h:o[i]? =some x):jq o x=i:=by
 obtain⟨hi,rfl⟩:=List.getElem?_eq_some_iff.1 h;exact hn.idxOf_getElem i hi
theorem z8{o r:List S}{x:S}(h:x∈o):jq (o++r) x=jq o x:=by
 rw[jq,List.idxOf_append,if_pos h];rfl
theorem za{o:List S}{x:S}(h:x∉o):jq (o++[x]) x=o.length:=by
 rw[jq,List.idxOf_append,if_neg h];simp
theorem zxy{o:List S}(h:o.Nodup)(x:S):(iq o x).Nodup:=by
 unfold iq
 split
 ·exact h
 ·rename_i hx
  refine List.nodup_append.2 ⟨h,by simp,fun a ha b hb=>?_⟩;rw[List.mem_singleton.1 hb]
  rintro rfl;exact hx ha
theorem zsh(o:List S)(x:S):∃ r,iq o x=o++r:=by
 unfold iq
 split
 ·exact⟨[],by simp⟩
 ·exact⟨[x],rfl⟩
theorem YX(o:List S)(x:S):x∈iq o x:=by
 unfold iq
 split
 ·assumption
 ·simp
end
section
variable {S:Type} [DecidableEq S] [Inhabited S]
def aR(f:S->Nat->S)(nc:Nat)(b0:S):Nat->List S
 |0=>[b0]
 |p+1=>iq (aR f nc b0 p) (f ((aR f nc b0 p).getD (p / nc) default) (p%nc))
variable {f:S->Nat->S} {nc:Nat} {b0:S}
theorem Lh:∀ p,(aR f nc b0 p).Nodup
 |0=>by simp[aR]
 |p+1=>zxy (Lh p) _
theorem PN:∀ (p q:Nat),p<=q->∃ r,aR f nc b0 q=aR f nc b0 p++r
 |p,0,h=>⟨[],by rw[show p=0 by omega];simp⟩
 | p,q+1,h=>by
  by_cases e:p=q+1
  ·exact⟨[],by rw[e];simp⟩
  ·obtain⟨r,hr⟩:=PN p q (by omega)
   obtain⟨r',hr'⟩:=zsh (aR f nc b0 q) (f ((aR f nc b0 q).getD (q / nc) default) (q%nc));exact⟨r++r',by rw[aR,hr',hr,List.append_assoc]⟩
theorem pR{p q:Nat}(h:p<=q):(aR f nc b0 p).length<=(aR f nc b0 q).length:=by
 obtain⟨r,hr⟩:=PN (f:=f) (nc:=nc) (b0:=b0) p q h;rw[hr];simp
theorem Sr(p:Nat):0< (aR f nc b0 p).length:=Nat.lt_of_lt_of_le (by simp[aR]) (pR (Nat.zero_le p))
theorem Su{p q i:Nat}(h:p<=q)(hi:i< (aR f nc b0 p).length):(aR f nc b0 q)[i]? =(aR f nc b0 p)[i]? :=by
 obtain⟨r,hr⟩:=PN (f:=f) (nc:=nc) (b0:=b0) p q h;rw[hr,List.getElem?_append_left hi]
theorem Ir{p q i:Nat}(h:p<=q)(hi:i< (aR f nc b0 p).length):(aR f nc b0 q).getD i default=(aR f nc b0 p).getD i default:=by
 rw[List.getD_eq_getElem?_getD,List.getD_eq_getElem?_getD,Su h hi]
theorem Xe{p:Nat}:(aR f nc b0 p)[0]? =some b0:=by
 rw[Su (Nat.zero_le p) (by simp[aR])];rfl
theorem SL{i k:Nat}(hk:k< nc){s:S}(hs:(aR f nc b0 (i*nc+k))[i]? =some s):aR f nc b0 (i*nc+k+1)=iq (aR f nc b0 (i*nc+k)) (f s k):=by
 rw[aR,(SK hk).1,(SK hk).2,List.getD_eq_getElem?_getD,hs,Option.getD_some]
structure Full(f:S->Nat->S)(nc:Nat)(b0:S)(n:Nat):Prop where
 len:(aR f nc b0 (n*nc)).length=n
 go:∀ i,i< n->i< (aR f nc b0 (i*nc)).length
theorem y01{n:Nat}(h:Full f nc b0 n){i k:Nat}(hi:i< n)(hk:k< nc):∃ s,(aR f nc b0 (n*nc))[i]? =some s/\(aR f nc b0 (i*nc+k))[i]? =some s/\i*nc+k+1<=n*nc:=by
 have hle:i*nc+k+1<=n*nc:=by
  have:(i+1)*nc<=n*nc:=Nat.mul_le_mul_right _ hi
  rw[Nat.succ_mul]at this;omega
 have hlt:i< (aR f nc b0 (i*nc+k)).length:=Nat.lt_of_lt_of_le (h.go i hi) (pR (by omega))
 obtain⟨s,hs⟩:∃ s,(aR f nc b0 (i*nc+k))[i]? =some s:=⟨_,List.getElem?_eq_getElem hlt⟩;exact⟨s,by rw[Su (by omega) hlt,hs],hs,hle⟩
theorem yF{n:Nat}(h:Full f nc b0 n){s:S}(hs:s∈aR f nc b0 (n*nc)){k:Nat}(hk:k< nc):f s k∈aR f nc b0 (n*nc):=by
 obtain⟨i,hi,e⟩:=List.mem_iff_getElem.1 hs;rw[h.len]at hi;obtain⟨s',h1,h2,h3⟩:=y01 h hi hk
 have:s'=s:=by
  rw[List.getElem?_eq_getElem (by rw[h.len];exact hi)]at h1;rw[<-e];exact(Option.some.inj h1).symm
 subst this;obtain⟨r,hr⟩:=PN (f:=f) (nc:=nc) (b0:=b0) _ _ h3;rw[hr,SL hk h2];exact List.mem_append_left _ (YX _ _)
theorem yG{n:Nat}(h:Full f nc b0 n){i k:Nat}(hi:i< n)(hk:k< nc){s:S}(hs:(aR f nc b0 (i*nc+k))[i]? =some s):jq (aR f nc b0 (i*nc+k+1)) (f s k)=jq (aR f nc b0 (n*nc)) (f s k):=by
 obtain⟨s',h1,h2,h3⟩:=y01 h hi hk
 obtain rfl:s=s':=by rw[hs]at h2;exact Option.some.inj h2
 obtain⟨r,hr⟩:=PN (f:=f) (nc:=nc) (b0:=b0) _ _ h3;rw[hr,z8 (by rw[SL hk h2];exact YX _ _)]
def dG(f:S->Nat->S)(nc:Nat)(b0:S)(n:Nat)(i k:Nat):Nat:=jq (aR f nc b0 (n*nc)) (f ((aR f nc b0 (n*nc)).getD i default) k)
theorem xk{n:Nat}(h:Full f nc b0 n){i k:Nat}(hi:i< n)(hk:k< nc):dG f nc b0 n i k< n/\(aR f nc b0 (n*nc))[dG f nc b0 n i k]? =some (f ((aR f nc b0 (n*nc)).getD i default) k):=by
 have hm:(aR f nc b0 (n*nc)).getD i default∈aR f nc b0 (n*nc):=by
  rw[List.getD_eq_getElem?_getD,List.getElem?_eq_getElem (by rw[h.len];exact hi)];exact List.getElem_mem _
 have:=yF h hm hk
 exact⟨by have:=Pz this;rw[h.len]at this;exact this,zuu this⟩
theorem zuv{n:Nat}(h:Full f nc b0 n):∀ (w:List Nat) (i:Nat) (s:S),(∀ k∈w,k< nc)->(aR f nc b0 (n*nc))[i]? =some s->(aR f nc b0 (n*nc))[runN (dG f nc b0 n) i w]? =some (Fs f s w)
 |[],i,s,_,hs=>hs
 |k::w,i,s,hw,hs=>by
  have hi:i< n:=by have:=(List.getElem?_eq_some_iff.1 hs).1;rwa [h.len]at this
  have hd:=(xk h hi (hw k List.mem_cons_self)).2
  have e:(aR f nc b0 (n*nc)).getD i default=s:=by rw[List.getD_eq_getElem?_getD,hs];rfl
  rw[e]at hd;exact zuv h w _ _ (fun x hx=>hw x (List.mem_cons_of_mem _ hx)) hd
end
end Go.Aut

namespace Go.Aut
section
variable {K:Type} [DecidableEq K] {key:Nat->K}
def dK(key:Nat->K)(l:List Nat):List Nat:=l.foldl (fun o s=>if key s∈o.map key then o else o++[s]) []
theorem zlg:∀ (l:List Nat) (o:List Nat),(l.foldl (fun o s=>if key s∈o.map key then o else o++[s]) o).map key=l.foldl (fun o s=>fZ o (key s)) (o.map key)
 |[],_=>rfl
 |s::l,o=>by
  rw[List.foldl_cons,List.foldl_cons,zlg l]
  congr 1
  unfold fZ
  split<;>simp
theorem Lb(l:List Nat):(dK key l).map key=aY key l:=zlg l []
theorem qU(l:List Nat):(dK key l).length=(aY key l).length:=by rw[<-Lb,List.length_map]
theorem Bg(l:List Nat)(s:Nat):dK key (l++[s])=if key s∈aY key l then dK key l else dK key l++[s]:=by
 rw[dK,List.foldl_append, <-Lb];rfl
theorem zpy:∀ (l:List Nat) (o:List Nat) (x:Nat),x∈l.foldl (fun o s=>if key s∈o.map key then o else o++[s]) o->x∈o\/x∈l
 |[],_,_,h=>.inl h
 | s::l,o,x,h=>by
  rcases zpy l _ x h with h|h
  ·have h:x∈(if key s∈o.map key then o else o++[s]):=h
   split at h
   ·exact .inl h
   ·rcases List.mem_append.1 h with h|h
    ·exact .inl h
    ·exact .inr (by rw[List.mem_singleton.1 h];exact List.mem_cons_self)
  ·exact .inr (List.mem_cons_of_mem _ h)
theorem PW{l:List Nat}{x:Nat}(h:x∈dK key l):x∈l:=by
 rcases zpy l [] x h with h|h
 ·cases h
 ·exact h
theorem Rv{l:List Nat}{s:Nat}(h:s∈l):∃ r,(dK key l)[lH key l s]? =some r/\key r=key s/\r∈l:=by
 have h1:=NR (key:=key) h
 rw[<-Lb,List.getElem?_map]at h1
 cases e:(dK key l)[lH key l s]? with
 |none=>rw[e]at h1;cases h1
 |some r=>rw[e]at h1;exact⟨r,rfl,Option.some.inj h1,PW (List.mem_of_getElem? e)⟩
end

def qL(c d:Nat->Nat)(b:Nat):Nat×Nat:=(c b,d b)
def iR(c d:Nat->Nat)(b:Nat):Nat:=lH (qL c d) dm b
def aA(c d:Nat->Nat):List Nat:=dK (qL c d) dm
theorem YY{c d:Nat->Nat}{b:Nat}(hb:b< 256):iR c d b< (aA c d).length:=by rw[aA,qU];exact vG (z57.2 hb)
theorem yZ{c d:Nat->Nat}{b:Nat}(hb:b< 256):∃ r,(aA c d)[iR c d b]? =some r/\c r=c b/\d r=d b/\r< 256:=by
 obtain⟨r,h1,h2,h3⟩:=Rv (key:=qL c d) (z57.2 hb);exact⟨r,h1,(Prod.ext_iff.1 h2).1,(Prod.ext_iff.1 h2).2,z57.1 h3⟩
theorem zxz{c d:Nat->Nat}{v:Nat}(hv:v< (aA c d).length):∃ b,b< 256/\iR c d b=v:=by
 rw[aA,qU]at hv;obtain⟨s,hs,e⟩:=Iv hv;exact⟨s,z57.1 hs,e⟩
theorem y5{c d:Nat->Nat}:0< (aA c d).length:=Nat.lt_of_le_of_lt (Nat.zero_le _) (YY (c:=c) (d:=d) (b:=0) (by decide))

def bZ{S:Type}(g:S->Nat->S):S->List Nat->S
 |s,[]=>s
 |s,b::w=>bZ g (g s b) w
theorem z58{S:Type}(g:S->Nat->S):∀ (u:List Nat) (a:S) (v:List Nat),bZ g a (u++v)=bZ g (bZ g a u) v
 |[],_,_=>rfl
 |x::u,a,v=>z58 g u (g a x) v
theorem zlh{S:Type}{f:S->Nat->S}{g:S->Nat->S}{cell:Nat->Nat}(h:∀ s b,b< 256->f s (cell b)=g s b):∀ (w:List Nat) (s:S),Bytes w->Fs f s (w.map cell)=bZ g s w
 |[],_,_=>rfl
 |b::w,s,hw=>by
  show Fs f (f s (cell b)) (w.map cell)=bZ g (g s b) w
  rw[h s b (hw b List.mem_cons_self)];exact zlh h w _ fun x hx=>hw x (List.mem_cons_of_mem _ hx)
theorem zpz(t:iG):∀ (w:List Nat) (s:Nat),t.run s w=runN t.δ s (w.map t.cell)
 |[],_=>rfl
 |b::w,s=>zpz t w _

def uw{S:Type}[DecidableEq S][Inhabited S](f:S->Nat->S)(acc:S->Bool)(cell:Nat->Nat)(nc:Nat)(b0:S)(n:Nat):iG:=
 { δ:=dG f nc b0 n,acc:=fun i=>acc ((aR f nc b0 (n*nc)).getD i default),cell:=cell,nc:=nc }
theorem y02{S:Type}[DecidableEq S][Inhabited S]{f g:S->Nat->S}{acc:S->Bool}{cell:Nat->Nat}{nc:Nat}{b0:S}{n:Nat}(h:Full f nc b0 n)(hc:∀ b,b< 256->cell b< nc)(hg:∀ s b,b< 256->f s (cell b)=g s b){w:List Nat}(hw:Bytes w):
  (uw f acc cell nc b0 n).lang 0 w=acc (bZ g b0 w):=by
 have h1:=zuv h (w.map cell) 0 b0 (fun k hk=>by
  obtain⟨b,hb,rfl⟩:=List.mem_map.1 hk
  exact hc b (hw b hb)) Xe
 rw[zlh hg w b0 hw]at h1
 show acc ((aR f nc b0 (n*nc)).getD ((uw f acc cell nc b0 n).run 0 w) default)=_
 rw[zpz,List.getD_eq_getElem?_getD]
 have h1':(aR f nc b0 (n*nc))[runN (uw f acc cell nc b0 n).δ 0 (w.map (uw f acc cell nc b0 n).cell)]? =some (bZ g b0 w):=h1
 rw[h1'];rfl

end Go.Aut

namespace Go.Aut
theorem rR{α:Type}{P:List α->Prop}(h0:P [])(h1:∀ l a,P l->P (l++[a]))(l:List α):P l:=by
 have key:∀ m:List α,P m.reverse:=fun m=>by
  induction m with
  |nil=>exact h0
  |cons a m ih=>rw[List.reverse_cons];exact h1 _ _ ih
 have:=key l.reverse
 rwa [List.reverse_reverse]at this
theorem XH{α:Type}(l:List α):l=[]\/∃ m a,l=m++[a]:=by
 refine rR (P:=fun l=>l=[]\/∃ m a,l=m++[a]) (.inl rfl) (fun m a _=>.inr ⟨m,a,rfl⟩) l
def Jj(L M:List Nat->Bool)(w:List Nat):Prop:=∃ u v,w=u++v/\L u=true/\M v=true
def iQ(L:List Nat->Bool)(w:List Nat):Prop:=∃ ws:List (List Nat),(∀ u∈ws,L u=true)/\ws.flatten=w
theorem iQ.nil(L:List Nat->Bool):iQ L []:=⟨[],by simp,rfl⟩
theorem iQ.snoc{L:List Nat->Bool}{u v:List Nat}(hu:iQ L u)(hv:L v=true):iQ L (u++v):=by
 obtain⟨ws,h1,rfl⟩:=hu;refine⟨ws++[v],fun x hx=>?_,by simp⟩
 rcases List.mem_append.1 hx with hx|hx
 ·exact h1 x hx
 ·rw[List.mem_singleton.1 hx];exact hv
theorem iQ.last{L:List Nat->Bool}{w:List Nat}(h:iQ L w)(hne:w≠[]):∃ u v,w=u++v/\iQ L u/\L v=true/\v≠[]:=by
 obtain⟨ws,h1,rfl⟩:=h
 revert h1 hne
 refine rR (P:=fun ws=>(∀ u∈ws,L u=true)->ws.flatten≠[]->∃ u v,ws.flatten=u++v/\iQ L u/\L v=true/\v≠[]) (fun _ h=>absurd rfl h) (fun ws a ih h1 hne=>?_) ws
 by_cases ha:a=[]
 ·subst ha
  have e:(ws++[[]]).flatten=ws.flatten:=by simp
  rw[e]at hne ⊢;exact ih (fun u hu=>h1 u (List.mem_append_left _ hu)) hne
 ·exact⟨ws.flatten,a,by simp,⟨ws,fun u hu=>h1 u (List.mem_append_left _ hu),rfl⟩,h1 a (by simp),ha⟩
section
variable {S:Type} {g:S->Nat->S} {s0:S} {mem:S->Nat->Prop}
theorem DN{dx dy:Nat->Nat->Nat}{ax:Nat->Bool}{p:S->Nat}(hp0:p s0=0)(hp:∀ s b,p (g s b)=dx (p s) b)(h0:∀ q,mem s0 q↔ax 0=true/\q=0)
  (h1:∀ s b q,mem (g s b) q↔(∃ r,mem s r/\dy r b=q)\/(ax (p (g s b))=true/\q=0)):∀ w,p (bZ g s0 w)=bZ dx 0 w/\∀ q,mem (bZ g s0 w) q↔∃ u v,w=u++v/\ax (bZ dx 0 u)=true/\bZ dy 0 v=q:=by
 refine rR (P:=fun w=>p (bZ g s0 w)=bZ dx 0 w/\∀ q,mem (bZ g s0 w) q↔∃ u v,w=u++v/\ax (bZ dx 0 u)=true/\bZ dy 0 v=q) ⟨hp0,fun q=>?_⟩ fun w b ih=>?_
 ·show mem s0 q↔_
  rw[h0]
  constructor
  ·rintro ⟨h,rfl⟩;exact⟨[],[],rfl,h,rfl⟩
  ·rintro ⟨u,v,e,h,hq⟩
   obtain⟨rfl,rfl⟩:=List.append_eq_nil_iff.1 e.symm;exact⟨h,hq.symm⟩
 ·obtain⟨ih1,ih2⟩:=ih
  have e1:p (bZ g s0 (w++[b]))=bZ dx 0 (w++[b]):=by rw[z58,z58, <-ih1];exact hp _ b
  refine⟨e1,fun q=>?_⟩
  have e2:bZ g s0 (w++[b])=g (bZ g s0 w) b:=by rw[z58];rfl
  rw[e2]at e1 ⊢;rw[h1,e1]
  constructor
  ·rintro (⟨r,hr,hd⟩|⟨ha,rfl⟩)
   ·obtain⟨u,v,rfl,hu,hv⟩:=(ih2 r).1 hr
    exact⟨u,v++[b],by simp,hu,by rw[z58,hv];exact hd⟩
   ·exact⟨w++[b],[],by simp,ha,rfl⟩
  ·rintro ⟨u,v,e,hu,hv⟩
   rcases XH v with rfl|⟨v',a,rfl⟩
   ·rw[List.append_nil]at e
    subst e;exact .inr ⟨hu,hv.symm⟩
   ·rw[<-List.append_assoc]at e
    obtain⟨rfl,e'⟩:=List.append_inj' e rfl
    obtain rfl:b=a:=by simpa using e'
    refine .inl ⟨bZ dy 0 v',(ih2 _).2 ⟨u,v',rfl,hu,rfl⟩,?_⟩;rw[z58]at hv;exact hv
theorem BO{d:Nat->Nat->Nat}{a:Nat->Bool}(h0:∀ q,mem s0 q↔q=0)(h1:∀ s b q,mem (g s b) q↔(∃ r,mem s r/\d r b=q)\/(q=0/\∃ r,mem s r/\a (d r b)=true)):
  ∀ w q,mem (bZ g s0 w) q↔∃ u v,w=u++v/\iQ (fun x=>a (bZ d 0 x)) u/\bZ d 0 v=q:=by
 refine rR (P:=fun w=>∀ q,mem (bZ g s0 w) q↔∃ u v,w=u++v/\iQ (fun x=>a (bZ d 0 x)) u/\bZ d 0 v=q) (fun q=>?_) fun w b ih q=>?_
 ·show mem s0 q↔_
  rw[h0]
  constructor
  ·rintro rfl;exact⟨[],[],rfl,iQ.nil _,rfl⟩
  ·rintro ⟨u,v,e,_,hq⟩
   obtain⟨rfl,rfl⟩:=List.append_eq_nil_iff.1 e.symm;exact hq.symm
 ·have e2:bZ g s0 (w++[b])=g (bZ g s0 w) b:=by rw[z58];rfl
  rw[e2,h1]
  constructor
  ·rintro (⟨r,hr,hd⟩|⟨rfl,r,hr,ha⟩)
   ·obtain⟨u,v,rfl,hu,hv⟩:=(ih r).1 hr
    exact⟨u,v++[b],by simp,hu,by rw[z58,hv];exact hd⟩
   ·obtain⟨u,v,rfl,hu,hv⟩:=(ih r).1 hr
    refine⟨u++(v++[b]),[],by simp,hu.snoc ?_,rfl⟩
    show a (bZ d 0 (v++[b]))=true
    rw[z58,hv];exact ha
  ·rintro ⟨u,v,e,hu,hv⟩
   rcases XH v with rfl|⟨v',c,rfl⟩
   ·rw[List.append_nil]at e
    obtain⟨u',v',e',hu',hv',hne⟩:=hu.last (by rw[<-e];simp)
    rcases XH v' with rfl|⟨v'',c,rfl⟩
    ·exact absurd rfl hne
    ·rw[e', <-List.append_assoc]at e
     obtain⟨rfl,e''⟩:=List.append_inj' e rfl
     obtain rfl:b=c:=by simpa using e''
     refine .inr ⟨hv.symm,bZ d 0 v'',(ih _).2 ⟨u',v'',rfl,hu',rfl⟩,?_⟩
     have hv':a (bZ d 0 (v''++[b]))=true:=hv'
     rw[z58]at hv';exact hv'
   ·rw[<-List.append_assoc]at e
    obtain⟨rfl,e'⟩:=List.append_inj' e rfl
    obtain rfl:b=c:=by simpa using e'
    refine .inl ⟨bZ d 0 v',(ih _).2 ⟨u,v',rfl,hu,rfl⟩,?_⟩;rw[z58]at hv;exact hv
end
theorem DL{S:Type}{g:S->Nat->S}{s0:S}{mem:S->Nat->Prop}{dx dy:Nat->Nat->Nat}{ax ay:Nat->Bool}{w:List Nat}(h:∀ q,mem (bZ g s0 w) q↔∃ u v,w=u++v/\ax (bZ dx 0 u)=true/\bZ dy 0 v=q):
  (∃ q,mem (bZ g s0 w) q/\ay q=true)↔Jj (fun u=>ax (bZ dx 0 u)) (fun v=>ay (bZ dy 0 v)) w:=by
 constructor
 ·rintro ⟨q,hq,ha⟩
  obtain⟨u,v,e,hu,rfl⟩:=(h q).1 hq;exact⟨u,v,e,hu,ha⟩
 ·rintro ⟨u,v,e,hu,ha⟩
  exact⟨_,(h _).2 ⟨u,v,e,hu,rfl⟩,ha⟩
theorem BN{S:Type}{g:S->Nat->S}{s0:S}{mem:S->Nat->Prop}{d:Nat->Nat->Nat}{a:Nat->Bool}{w:List Nat}(hw:w≠[])(h:∀ q,mem (bZ g s0 w) q↔∃ u v,w=u++v/\iQ (fun x=>a (bZ d 0 x)) u/\bZ d 0 v=q):
  (∃ q,mem (bZ g s0 w) q/\a q=true)↔iQ (fun x=>a (bZ d 0 x)) w:=by
 constructor
 ·rintro ⟨q,hq,ha⟩
  obtain⟨u,v,rfl,hu,rfl⟩:=(h q).1 hq;exact hu.snoc ha
 ·intro hs
  obtain⟨u,v,e,hu,hv,_⟩:=hs.last hw;exact⟨_,(h _).2 ⟨u,v,e,hu,rfl⟩,hv⟩
end Go.Aut

namespace Go.Aut
structure Dfa where
 cls:List UInt64
 nc:Nat
 next:List (List Int)
 acc:List Bool
def bv(cls:List UInt64)(c b:Nat):Bool:=(cls.getD (c*4+b / 64) 0).toNat.testBit (b%64)
def eO(d:Dfa)(b:Nat):Nat:=((List.range d.nc).find? fun c=>bv d.cls c b).getD 0
structure Dfa.ok(d:Dfa):Prop where
 clen:d.cls.length=d.nc*4
 npos:0< d.next.length
 alen:d.acc.length=d.next.length
 cpos:0< d.nc
 cmax:d.nc<=256
 part:∀ b,b< 256->∃ c,c< d.nc/\∀ x,x< d.nc->(bv d.cls x b=true↔x=c)
 full:∀ c,c< d.nc->∃ b,b< 256/\bv d.cls c b=true
 rows:∀ r∈d.next,r.length=d.nc/\∀ t∈r,0<=t/\t< (d.next.length:Nat)
def iJ(d:Dfa)(s c:Nat):Nat:=((d.next.getD s []).getD c 0).toNat
def Cn(d:Dfa)(s:Nat):Bool:=d.acc.getD s false
def lV(d:Dfa):kK:={ n:=d.next.length,nc:=d.nc,cell:=eO d,next:=iJ d,acc:=Cn d }
def gq(d:Dfa):iG:={ δ:=iJ d,acc:=Cn d,cell:=eO d,nc:=d.nc }
theorem Sv(d:Dfa):∀ (w:List Nat) (s:Nat),(lV d).lang s w=(gq d).lang s w:=by
 have key:∀ (w:List Nat) (s:Nat),(lV d).run s w=(gq d).run s w:=by
  intro w
  induction w with
  |nil=>exact fun _=>rfl
  |cons b w ih=>exact fun s=>ih _
 intro w s
 show Cn d _=Cn d _
 rw[key]
def aT(d:Dfa)(w:List Nat):Bool:=(gq d).lang 0 w
theorem P6{d:Dfa}(h:d.ok){b:Nat}(hb:b< 256):eO d b< d.nc/\∀ x,x< d.nc->(bv d.cls x b=true↔x=eO d b):=by
 obtain⟨c,hc,hx⟩:=h.part b hb
 have e:eO d b=c:=by
  rw[eO]
  cases hf:(List.range d.nc).find? fun c=>bv d.cls c b with
  |none=>
   have:=List.find?_eq_none.1 hf c (List.mem_range.2 hc)
   exact absurd ((hx c hc).2 rfl) (by simpa using this)
  |some y=>
   have h1:=List.find?_some hf
   have h2:=List.mem_range.1 (List.mem_of_find?_eq_some hf)
   exact(hx y h2).1 h1
 rw[e];exact⟨hc,hx⟩
theorem next_lt{d:Dfa}(h:d.ok){s c:Nat}(hs:s< d.next.length)(hc:c< d.nc):iJ d s c< d.next.length/\(d.next.getD s []).getD c 0=(iJ d s c:Nat):=by
 have hr:=h.rows (d.next.getD s []) (by rw[List.getD_eq_getElem?_getD,List.getElem?_eq_getElem hs];exact List.getElem_mem _)
 have ht:=hr.2 ((d.next.getD s []).getD c 0) (by rw[List.getD_eq_getElem?_getD (i:=c),List.getElem?_eq_getElem (by rw[hr.1];exact hc)];exact List.getElem_mem _)
 rw[iJ]
 omega
theorem y03{x y:UInt64}(h:∀ j,j< 64->x.toNat.testBit j=y.toNat.testBit j):x=y:=by
 apply UInt64.toNat_inj.1;apply Nat.eq_of_testBit_eq;intro j
 by_cases hj:j< 64
 ·exact h j hj
 ·have big:∀ z:UInt64,z.toNat.testBit j=false:=fun z=>Nat.testBit_lt_two_pow (Nat.lt_of_lt_of_le z.toNat_lt (Nat.pow_le_pow_right (by decide) (by omega)))
  rw[big,big]
theorem DD{d e:Dfa}{L:List Nat->Bool}(hd:d.ok)(he:e.ok)(cd:aj (lV d) L)(ce:aj (lV e) L):d=e:=by
 obtain⟨h1,h2,h3,h4,h5⟩:=xO cd ce
 have h1:d.next.length=e.next.length:=h1
 have h2:d.nc=e.nc:=h2
 have a1:d.acc=e.acc:=by
  apply List.ext_getElem (by rw[hd.alen,he.alen,h1]);intro i hi hi'
  have:=h5 i (by show i< d.next.length;rw[<-hd.alen];exact hi)
  have h6:d.acc.getD i false=e.acc.getD i false:=this
  rw[List.getD_eq_getElem?_getD,List.getD_eq_getElem?_getD,List.getElem?_eq_getElem hi,List.getElem?_eq_getElem hi']at h6;exact h6
 have a2:d.next=e.next:=by
  apply List.ext_getElem h1;intro i hi hi'
  have r1:=hd.rows _ (List.getElem_mem hi)
  have r2:=he.rows _ (List.getElem_mem hi')
  apply List.ext_getElem (by rw[r1.1,r2.1,h2]);intro c hc hc'
  have hc1:c< d.nc:=by rw[<-r1.1];exact hc
  have h6:iJ d i c=iJ e i c:=h4 i c hi hc1
  have n1:=(next_lt hd hi hc1).2
  have n2:=(next_lt he (by rw[<-h1];exact hi) (by rw[<-h2];exact hc1)).2
  rw[h6, <-n2]at n1;rw[List.getD_eq_getElem?_getD (l:=d.next),List.getElem?_eq_getElem hi,List.getD_eq_getElem?_getD (l:=e.next),List.getElem?_eq_getElem hi',Option.getD_some,Option.getD_some,List.getD_eq_getElem?_getD,List.getD_eq_getElem?_getD,List.getElem?_eq_getElem hc,List.getElem?_eq_getElem hc']at n1;exact n1
 have a3:d.cls=e.cls:=by
  apply List.ext_getElem (by rw[hd.clen,he.clen,h2]);intro i hi hi';refine y03 fun j hj=>?_
  have hi4:i< d.nc*4:=by rw[<-hd.clen];exact hi
  have hb:64*(i%4)+j< 256:=by omega
  have hc:i / 4< d.nc:=by omega
  have e1:(64*(i%4)+j) / 64=i%4:=by omega
  have e2:(64*(i%4)+j)%64=j:=by omega
  have e3:i / 4*4+i%4=i:=by omega
  have g1:bv d.cls (i / 4) (64*(i%4)+j)=d.cls[i].toNat.testBit j:=by
   rw[bv,e1,e2,e3,List.getD_eq_getElem?_getD,List.getElem?_eq_getElem hi];rfl
  have g2:bv e.cls (i / 4) (64*(i%4)+j)=e.cls[i].toNat.testBit j:=by
   rw[bv,e1,e2,e3,List.getD_eq_getElem?_getD,List.getElem?_eq_getElem hi'];rfl
  rw[<-g1, <-g2,Bool.eq_iff_iff,(P6 hd hb).2 _ hc,(P6 he hb).2 _ (by rw[<-h2];exact hc)]
  have:eO d (64*(i%4)+j)=eO e (64*(i%4)+j):=h3 _ hb
  rw[this]
 cases d;cases e
 simp only at h2 a1 a2 a3
 subst h2;subst a1;subst a2;subst a3
 rfl
open Classical in
noncomputable def af(L:List Nat->Bool):Dfa:=if h:∃ d:Dfa,d.ok/\aj (lV d) L then Classical.choose h else⟨[],0,[],[]⟩
theorem P7{d:Dfa}{L:List Nat->Bool}(hd:d.ok)(h:aj (lV d) L):af L=d:=by
 have he:∃ d:Dfa,d.ok/\aj (lV d) L:=⟨d,hd,h⟩
 rw[af,dif_pos he];exact DD (Classical.choose_spec he).1 hd (Classical.choose_spec he).2 h
end Go.Aut

namespace Go.Aut
structure Tab where
 cell:List Int
 nc:Nat
 next:List (List Int)
 acc:List Bool
def aD(t:Tab):iG:={ δ:=fun s c=>((t.next.getD s []).getD c 0).toNat,acc:=fun s=>t.acc.getD s false,cell:=fun b=>(t.cell.getD b 0).toNat,nc:=t.nc }
structure Tab.ok(t:Tab):Prop where
 clen:t.cell.length=256
 cells:∀ x∈t.cell,0<=x/\x< (t.nc:Nat)
 npos:0< t.next.length
 alen:t.acc.length=t.next.length
 rows:∀ r∈t.next,r.length=t.nc/\∀ x∈r,0<=x/\x< (t.next.length:Nat)
 byte:∀ c,c< t.nc->∃ b,b< 256/\(aD t).cell b=c
theorem Tab.cell_lt{t:Tab}(h:t.ok){b:Nat}(hb:b< 256):(aD t).cell b< t.nc/\t.cell.getD b 0=((aD t).cell b:Nat):=by
 have hx:=h.cells (t.cell.getD b 0) (by rw[List.getD_eq_getElem?_getD,List.getElem?_eq_getElem (by rw[h.clen];exact hb)];exact List.getElem_mem _)
 show(t.cell.getD b 0).toNat< t.nc/\t.cell.getD b 0=((t.cell.getD b 0).toNat:Nat)
 omega
theorem Tab.next_lt{t:Tab}(h:t.ok){s c:Nat}(hs:s< t.next.length)(hc:c< t.nc):(aD t).δ s c< t.next.length/\(t.next.getD s []).getD c 0=((aD t).δ s c:Nat):=by
 have hr:=h.rows (t.next.getD s []) (by rw[List.getD_eq_getElem?_getD,List.getElem?_eq_getElem hs];exact List.getElem_mem _)
 have hx:=hr.2 ((t.next.getD s []).getD c 0) (by rw[List.getD_eq_getElem?_getD (i:=c),List.getElem?_eq_getElem (by rw[hr.1];exact hc)];exact List.getElem_mem _)
 show((t.next.getD s []).getD c 0).toNat< t.next.length/\(t.next.getD s []).getD c 0=(((t.next.getD s []).getD c 0).toNat:Nat)
 omega
theorem zsi{m m':kK}{L:List Nat->Bool}(h:aj m L)(hn:m'.n=m.n)(hc:m'.nc=m.nc)(hcell:∀ b,b< 256->m'.cell b=m.cell b)(hnext:∀ s c,s< m.n->c< m.nc->m'.next s c=m.next s c)(hacc:∀ s,s< m.n->m'.acc s=m.acc s):aj m' L:=by
 have hrun:∀ (w:List Nat) (s:Nat),s< m.n->Bytes w->m'.run s w=m.run s w/\m.run s w< m.n:=by
  intro w
  induction w with
  |nil=>exact fun s hs _=>⟨rfl,hs⟩
  | cons b w ih=>
   intro s hs hw
   have hb:=hw b List.mem_cons_self
   have e:m'.step s b=m.step s b:=by
    show m'.next s (m'.cell b)=m.next s (m.cell b)
    rw[hcell b hb,hnext s _ hs (h.cellOK b hb)]
   have:=ih (m.step s b) (h.nextOK _ _ hs (h.cellOK b hb)) fun x hx=>hw x (List.mem_cons_of_mem _ hx)
   show m'.run (m'.step s b) w=m.run (m.step s b) w/\_
   rw[e];exact this
 have hlang:∀ (w:List Nat) (s:Nat),s< m.n->Bytes w->m'.lang s w=m.lang s w:=fun w s hs hw=>by
  obtain⟨h1,h2⟩:=hrun w s hs hw
  show m'.acc _=m.acc _
  rw[h1,hacc _ h2]
 refine⟨by rw[hn];exact h.pos,by rw[hc];exact h.cpos,fun b hb=>by rw[hcell b hb,hc];exact h.cellOK b hb,fun s c hs hcc=>?_,fun w hw=>by rw[hlang w 0 h.pos hw];exact h.lang w hw,fun s t hs ht hne=>?_,fun c d hcc hd hne=>?_,fun b hb v hv=>?_,fun c hcc=>?_,fun s c hs hcc v h0 hv=>?_,fun s h0 hs=>?_⟩
 ·rw[hn]at hs ⊢;rw[hc]at hcc
  rw[hnext s c hs hcc];exact h.nextOK s c hs hcc
 ·rw[hn]at hs ht
  obtain⟨w,hw,e⟩:=h.apart s t hs ht hne;exact⟨w,hw,by rw[hlang w s hs hw,hlang w t ht hw];exact e⟩
 ·rw[hc]at hcc hd
  obtain⟨s,hs,e⟩:=h.capart c d hcc hd hne;exact⟨s,by rw[hn];exact hs,by rw[hnext s c hs hcc,hnext s d hs hd];exact e⟩
 ·rw[hcell b hb]at hv
  obtain⟨a,ha,e⟩:=h.cfirst b hb v hv;exact⟨a,ha,by rw[hcell a (Nat.lt_trans ha hb)];exact e⟩
 ·rw[hc]at hcc
  obtain⟨b,hb,e⟩:=h.conto c hcc;exact⟨b,hb,by rw[hcell b hb];exact e⟩
 ·rw[hn]at hs;rw[hc]at hcc
  rw[hnext s c hs hcc]at hv;obtain⟨t,d,ht,hd,ho,e⟩:=h.first s c hs hcc v h0 hv;exact⟨t,d,by rw[hn];exact ht,by rw[hc];exact hd,ho,by rw[hnext t d ht hd];exact e⟩
 ·rw[hn]at hs
  obtain⟨t,c,ht,hcc,e⟩:=h.onto s h0 hs;exact⟨t,c,ht,by rw[hc];exact hcc,by rw[hnext t c (Nat.lt_trans ht hs) hcc];exact e⟩
theorem zq0{d:Dfa}{L:List Nat->Bool}(h:aj (lV d) L){w:List Nat}(hw:Bytes w):aT d w=L w:=by
 rw[aT, <-Sv];exact h.lang w hw
theorem Sw{d:Dfa}(h:d.ok){b c:Nat}(hb:b< 256)(hc:c< d.nc):eO d b=c↔bv d.cls c b=true:=by
 rw[(P6 h hb).2 c hc];exact eq_comm
structure Laid(d:Dfa)(t:iG)(block reps of rep:Nat->Nat)(nc n:Nat):Prop where
 ncE:d.nc=nc
 cmax:nc<=256
 clen:d.cls.length=nc*4
 cls:∀ j b,j< nc->b< 256->(bv d.cls j b=true↔of (t.cell b)=j)
 nlen:d.next.length=n
 rows:∀ s,s< n->(d.next.getD s []).length=nc/\∀ c,c< nc->(d.next.getD s []).getD c 0=(num (bf t block reps rep) nc (block 0) n s c:Nat)
 alen:d.acc.length=n
 acc:∀ s,s< n->d.acc.getD s false=t.acc (reps ((aP (bf t block reps rep) nc (block 0) (n*nc)).getD s 0))
theorem zli{d:Dfa}{t:iG}{R:Nat->Prop}{block reps of rep:Nat->Nat}{k nc n:Nat}(h:Ck t R block reps k of rep nc)(hc:kW (bf t block reps rep) nc (block 0) n)(hl:Laid d t block reps of rep nc n):d.ok/\aj (lV d) (t.lang 0):=by
 have hcan:=zpu h hc
 have hn:0< n:=hcan.pos
 have hok:d.ok:=by
  refine⟨by rw[hl.clen,hl.ncE],by rw[hl.nlen];exact hn,by rw[hl.alen,hl.nlen],by rw[hl.ncE];exact h.npos,by rw[hl.ncE];exact hl.cmax,fun b hb=>?_,fun c hcc=>?_,fun r hr=>?_⟩
  ·refine⟨of (t.cell b),by rw[hl.ncE];exact h.ofOK _ (h.cellOK b hb),fun x hx=>?_⟩
   rw[hl.cls x b (by rw[<-hl.ncE];exact hx) hb];exact eq_comm
  ·rw[hl.ncE]at hcc
   obtain⟨b,hb,e⟩:=hcan.conto c hcc;exact⟨b,hb,(hl.cls c b hcc hb).2 e⟩
  ·obtain⟨s,hs,rfl⟩:=List.mem_iff_getElem.1 hr
   have hs':s< n:=by rw[<-hl.nlen];exact hs
   have e:d.next[s]=d.next.getD s []:=by rw[List.getD_eq_getElem?_getD,List.getElem?_eq_getElem hs];rfl
   rw[e];obtain⟨h1,h2⟩:=hl.rows s hs';refine⟨by rw[h1,hl.ncE],fun x hx=>?_⟩;obtain⟨c,hcc,rfl⟩:=List.mem_iff_getElem.1 hx
   have hcc':c< nc:=by rw[<-h1];exact hcc
   have e2:(d.next.getD s [])[c]=(d.next.getD s []).getD c 0:=by rw[List.getD_eq_getElem?_getD (i:=c),List.getElem?_eq_getElem hcc];rfl
   rw[e2,h2 c hcc',hl.nlen]
   have:=(Nh hc hs' hcc').1
   omega
 refine⟨hok,zsi hcan hl.nlen hl.ncE (fun b hb=>?_) (fun s c hs hcc=>?_) (fun s hs=>hl.acc s hs)⟩
 ·show eO d b=of (t.cell b)
  rw[Sw hok hb (by rw[hl.ncE];exact h.ofOK _ (h.cellOK b hb))];exact(hl.cls _ b (h.ofOK _ (h.cellOK b hb)) hb).2 rfl
 ·show((d.next.getD s []).getD c 0).toNat=_
  rw[(hl.rows s hs).2 c hcc];rfl
end Go.Aut

namespace Go.Aut
def qO:List Nat->List Nat->Prop
 |a::ax,b::bs=>a< b\/a=b/\qO ax bs
 |_,_=>False
def sl(u v:List Nat):Prop:=u.length< v.length\/u.length=v.length/\qO u v
theorem zuw:∀ u,¬ qO u u
 |[],h=>h
 |a::u,h=>h.elim (Nat.lt_irrefl a) fun h=>zuw u h.2
theorem zlj:∀ {u v w},qO u v->qO v w->qO u w
 |[],_,_,h,_=>h.elim
 |_::_,[],_,h,_=>h.elim
 |_::_,_::_,[],_,h=>h.elim
 |a::u,b::v,c::w,h,k=>by
  rcases h with h|⟨rfl,h⟩<;>rcases k with k|⟨rfl,k⟩
  ·exact .inl (Nat.lt_trans h k)
  ·exact .inl h
  ·exact .inl k
  ·exact .inr ⟨rfl,zlj h k⟩
theorem zq1:∀ {u v:List Nat} (a b:Nat),u.length=v.length->qO u v->qO (u++[a]) (v++[b])
 |[],_,_,_,_,h=>h.elim
 |_::_,[],_,_,_,h=>h.elim
 |x::u,y::v,a,b,hl,h=>by
  rcases h with h|⟨rfl,h⟩
  ·exact .inl h
  ·exact .inr ⟨rfl,zq1 a b (by simpa using hl) h⟩
theorem zq2:∀ (u:List Nat) {a b:Nat},a< b->qO (u++[a]) (u++[b])
 |[],_,_,h=>.inl h
 |x::u,_,_,h=>.inr ⟨rfl,zq2 u h⟩
theorem BA(u:List Nat):¬ sl u u:=fun h=>h.elim (Nat.lt_irrefl _) fun h=>zuw u h.2
theorem zux{u v w:List Nat}(h:sl u v)(k:sl v w):sl u w:=by
 unfold sl at*
 rcases h with h|⟨h,h'⟩<;>rcases k with k|⟨k,k'⟩
 ·exact .inl (Nat.lt_trans h k)
 ·exact .inl (by omega)
 ·exact .inl (by omega)
 ·exact .inr ⟨h.trans k,zlj h' k'⟩
def ut(u v:List Nat):Prop:=u=v\/sl u v
theorem ut.trans{u v w:List Nat}(h:ut u v)(k:ut v w):ut u w:=by
 rcases h with rfl|h
 ·exact k
 ·rcases k with rfl|k
  ·exact .inr h
  ·exact .inr (zux h k)
theorem GU{u v:List Nat}(h:ut u v):¬ sl v u:=fun k=>by
 rcases h with rfl|h
 ·exact BA _ k
 ·exact BA _ (zux h k)
theorem ZB{u v:List Nat}(h:sl u v)(a b:Nat):sl (u++[a]) (v++[b]):=by
 rcases h with h|⟨h,k⟩
 ·exact .inl (by simpa using h)
 ·exact .inr ⟨by simpa using h,zq1 a b h k⟩
theorem y04(u:List Nat){a b:Nat}(h:a< b):sl (u++[a]) (u++[b]):=.inr ⟨by simp,zq2 u h⟩
theorem BC{u v:List Nat}(h:ut u v)(a:Nat):ut (u++[a]) (v++[a]):=by
 rcases h with rfl|h
 ·exact .inl rfl
 ·exact .inr (ZB h a a)
theorem Az(u:List Nat)(a:Nat):sl u (u++[a]):=.inl (by simp)
theorem BB{u:List Nat}(h:u≠[]):sl [] u:=.inl (by cases u<;>simp at*)
def Gz(L:List Nat->Bool)(w:List Nat):Prop:=Bytes w/\L w=true/\∀ v,Bytes v->L v=true->ut w v
theorem Gz.eq{L:List Nat->Bool}{w v:List Nat}(h:Gz L w)(k:Gz L v):w=v:=by
 rcases h.2.2 v k.1 k.2.1 with e|h1
 ·exact e
 ·exact absurd h1 (GU (k.2.2 w h.1 h.2.1))
def eF(f:Nat->Nat->Nat):Nat->List (List Nat)
 |0=>[[]]
 |p+1=>if f ((aR f 256 0 p).getD (p / 256) default) (p%256)∈aR f 256 0 p then eF f p else eF f p++[(eF f p).getD (p / 256) []++[p%256]]
section
variable {f:Nat->Nat->Nat}
theorem Lp:∀ p,(eF f p).length=(aR f 256 0 p).length
 |0=>rfl
 |p+1=>by
  rw[eF,aR,iq]
  split
  ·exact Lp p
  ·simp[Lp p]
theorem zj6:∀ (p q:Nat),p<=q->∃ r,eF f q=eF f p++r
 |p,0,h=>⟨[],by rw[Nat.le_zero.1 h];simp⟩
 | p,q+1,h=>by
  by_cases e:p=q+1
  ·exact⟨[],by rw[e];simp⟩
  ·obtain⟨r,hr⟩:=zj6 p q (by omega)
   rw[eF]
   split
   ·exact⟨r,hr⟩
   ·exact⟨r++[(eF f q).getD (q / 256) []++[q%256]],by rw[<-List.append_assoc, <-hr]⟩
theorem CR{p q i:Nat}(h:p<=q)(hi:i< (aR f 256 0 p).length):(eF f q).getD i []=(eF f p).getD i []:=by
 obtain⟨r,hr⟩:=zj6 (f:=f) p q h;rw[hr,List.getD_eq_getElem?_getD,List.getElem?_append_left (by rw[Lp];exact hi), <-List.getD_eq_getElem?_getD]
theorem Xf:∀ (p j:Nat),j< (aR f 256 0 p).length->j=0\/∃ q,q< p/\(aR f 256 0 q).length=j/\(eF f p).getD j []=(eF f q).getD (q / 256) []++[q%256]/\(aR f 256 0 p).getD j 0=f ((aR f 256 0 q).getD (q / 256) 0) (q%256)
 |0,j,h=>.inl (by simp[aR]at h;exact h)
 | p +1,j,h=>by
  by_cases hj:j< (aR f 256 0 p).length
  ·rcases Xf p j hj with e|⟨q,h1,h2,h3,h4⟩
   ·exact .inl e
   ·exact .inr ⟨q,by omega,h2,by rw[CR (Nat.le_succ p) hj];exact h3,by
     have:=Ir (f:=f) (nc:=256) (b0:=0) (Nat.le_succ p) hj
     exact this.trans h4⟩
  ·rw[aR,iq]at h
   split at h
   ·exact absurd h hj
   ·rename_i hn
    have e:j=(aR f 256 0 p).length:=by simp at h;omega
    refine .inr ⟨p,Nat.lt_succ_self p,e.symm,?_,?_⟩
    ·rw[eF,if_neg hn,e, <-Lp,List.getD_eq_getElem?_getD,List.getElem?_append_right (Nat.le_refl _)]
     simp
    ·rw[aR,iq,if_neg hn,e,List.getD_eq_getElem?_getD,List.getElem?_append_right (Nat.le_refl _)]
     simp
theorem SN:∀ (p:Nat),(∀ q,q< p->q / 256< (aR f 256 0 q).length)->
  (∀ j,j< (aR f 256 0 p).length->Bytes ((eF f p).getD j [])/\bZ f 0 ((eF f p).getD j [])=(aR f 256 0 p).getD j 0)/\
  (∀ i j,i< j->j< (aR f 256 0 p).length->sl ((eF f p).getD i []) ((eF f p).getD j []))
 | 0,_=>⟨fun j hj=>by
   have:j=0:=by simp[aR]at hj;exact hj
   subst this
   exact⟨Bytes.nil,rfl⟩,fun i j hij hj=>by simp[aR]at hj;omega⟩
 | p +1,hz=>by
  obtain⟨h1,h2⟩:=SN p fun q hq=>hz q (by omega)
  have hp:=hz p (Nat.lt_succ_self p)
  have hs:bZ f 0 ((eF f p).getD (p / 256) []++[p%256])=f ((aR f 256 0 p).getD (p / 256) default) (p%256):=by
   rw[z58,(h1 _ hp).2];rfl
  have hb:Bytes ((eF f p).getD (p / 256) []++[p%256]):=(h1 _ hp).1.app (Bytes.cons (Nat.mod_lt _ (by decide)) Bytes.nil)
  by_cases hn:f ((aR f 256 0 p).getD (p / 256) default) (p%256)∈aR f 256 0 p
  ·rw[eF,if_pos hn,aR,iq,if_pos hn];exact⟨h1,h2⟩
  ·have hold:∀ {j},j< (aR f 256 0 p).length->(eF f (p+1)).getD j []=(eF f p).getD j []/\(aR f 256 0 (p+1)).getD j 0=(aR f 256 0 p).getD j 0:=fun {j} hj=>⟨CR (Nat.le_succ p) hj,Ir (Nat.le_succ p) hj⟩
   have hlen:(aR f 256 0 (p+1)).length=(aR f 256 0 p).length+1:=by rw[aR,iq,if_neg hn];simp
   have hnew:(eF f (p+1)).getD (aR f 256 0 p).length []=(eF f p).getD (p / 256) []++[p%256]/\(aR f 256 0 (p+1)).getD (aR f 256 0 p).length 0=f ((aR f 256 0 p).getD (p / 256) default) (p%256):=by
    refine⟨?_,?_⟩
    ·rw[eF,if_neg hn, <-Lp,List.getD_eq_getElem?_getD,List.getElem?_append_right (Nat.le_refl _)];simp
    ·rw[aR,iq,if_neg hn,List.getD_eq_getElem?_getD,List.getElem?_append_right (Nat.le_refl _)];simp
   refine⟨fun j hj=>?_,fun i j hij hj=>?_⟩
   ·by_cases hjo:j< (aR f 256 0 p).length
    ·rw[(hold hjo).1,(hold hjo).2];exact h1 j hjo
    ·obtain rfl:j=(aR f 256 0 p).length:=by omega
     rw[hnew.1,hnew.2];exact⟨hb,hs⟩
   ·by_cases hjo:j< (aR f 256 0 p).length
    ·rw[(hold hjo).1,(hold (Nat.lt_trans hij hjo)).1];exact h2 i j hij hjo
    ·obtain rfl:j=(aR f 256 0 p).length:=by omega
     rw[hnew.1,(hold hij).1]
     -- an earlier word
     rcases Xf p i hij with rfl|⟨q,hq,_,h3,_⟩
     ·have e0:(eF f p).getD 0 []=[]:=(CR (p:=0) (Nat.zero_le p) (by simp[aR])).trans rfl
      rw[e0];exact BB (by simp)
     ·rw[h3]
      have hq':=hz q (by omega)
      have e1:(eF f q).getD (q / 256) []=(eF f p).getD (q / 256) []:=(CR (Nat.le_of_lt hq) hq').symm
      rw[e1]
      by_cases e:q / 256=p / 256
      ·rw[e];exact y04 _ (by omega)
      ·exact ZB (h2 _ _ (by omega) hp) _ _
theorem Gc{p:Nat}(hz:∀ q,q< p->q / 256< (aR f 256 0 q).length){i b:Nat}(hb:b< 256)(hip:i*256+b< p):∃ j,j< (aR f 256 0 p).length/\(aR f 256 0 p).getD j 0=f ((aR f 256 0 p).getD i 0) b/\ut ((eF f p).getD j []) ((eF f p).getD i []++[b]):=by
 obtain⟨e1,e2⟩:=SK (i:=i) (k:=b) (nc:=256) hb
 have hi:=hz _ hip
 rw[e1]at hi
 have hle:(aR f 256 0 (i*256+b)).length<=(aR f 256 0 p).length:=pR (Nat.le_of_lt hip)
 have hst:(aR f 256 0 p).getD i 0=(aR f 256 0 (i*256+b)).getD i 0:=Ir (Nat.le_of_lt hip) hi
 have hmem:f ((aR f 256 0 p).getD i 0) b∈aR f 256 0 (i*256+b+1):=by
  rw[hst,aR,e1,e2];exact YX _ _
 have hsub:∀ x,x∈aR f 256 0 (i*256+b+1)->∃ j,j< (aR f 256 0 (i*256+b+1)).length/\(aR f 256 0 p).getD j 0=x:=fun x hx=>by
  obtain⟨j,hj,e⟩:=List.mem_iff_getElem.1 hx;refine⟨j,hj,?_⟩
  have:=Ir (f:=f) (nc:=256) (b0:=0) (show i*256+b+1<=p from hip) hj
  rw[show(aR f 256 0 p).getD j 0=_ from this,List.getD_eq_getElem?_getD,List.getElem?_eq_getElem hj];exact e
 obtain⟨j,hj,e⟩:=hsub _ hmem
 have hjp:j< (aR f 256 0 p).length:=Nat.lt_of_lt_of_le hj (pR hip)
 refine⟨j,hjp,e,?_⟩
 have hw:(eF f p).getD j []=(eF f (i*256+b+1)).getD j []:=CR hip hj
 obtain⟨_,h2⟩:=SN p hz
 rcases Xf (i*256+b+1) j hj with rfl|⟨q,hq,_,h3,_⟩
 ·have e0:(eF f p).getD 0 []=[]:=(CR (p:=0) (Nat.zero_le p) (by simp[aR])).trans rfl
  rw[e0];exact .inr (BB (by simp))
 ·rw[hw,h3]
  have hq':=hz q (by omega)
  have e3:(eF f q).getD (q / 256) []=(eF f p).getD (q / 256) []:=(CR (by omega) hq').symm
  rw[e3]
  by_cases e4:q / 256=i
  ·rw[e4]
   by_cases e5:q%256=b
   ·rw[e5];exact .inl rfl
   ·exact .inr (y04 _ (by omega))
  ·exact .inr (ZB (h2 _ _ (by omega) (Nat.lt_of_lt_of_le hi hle)) _ _)
theorem found{i:Nat}(hz:∀ q,q< i*256->q / 256< (aR f 256 0 q).length):∀ v,Bytes v->
  (∃ j,j< (aR f 256 0 (i*256)).length/\(aR f 256 0 (i*256)).getD j 0=bZ f 0 v/\ut ((eF f (i*256)).getD j []) v)\/
  (i< (aR f 256 0 (i*256)).length/\ut ((eF f (i*256)).getD i []) v):=by
 intro v hv
 induction h:v.length generalizing v with
 | zero=>
  obtain rfl:v=[]:=List.length_eq_zero_iff.1 h
  exact .inl ⟨0,Sr _,by
   have:(aR f 256 0 (i*256))[0]? =some 0:=Xe
   rw[List.getD_eq_getElem?_getD,this];rfl,.inl ((CR (p:=0) (Nat.zero_le _) (by simp[aR])).trans rfl)⟩
 | succ n ih=>
  obtain⟨u,b,rfl⟩:∃ u b,v=u++[b]:=⟨v.dropLast,v.getLast (by intro e;simp[e]at h),(List.dropLast_concat_getLast _).symm⟩
  have hu:Bytes u:=fun x hx=>hv x (List.mem_append_left _ hx)
  have hb:b< 256:=hv b (by simp)
  rcases ih u hu (by simpa using h) with⟨j,hj,e,hl⟩|⟨h1,h2⟩
  ·by_cases hji:j< i
   ·obtain⟨j',hj',e',hl'⟩:=Gc hz hb (show j*256+b< i*256 by omega)
    exact .inl ⟨j',hj',by rw[e',e,z58];rfl,hl'.trans (BC hl b)⟩
   ·refine .inr ⟨by omega,?_⟩
    have h3:ut ((eF f (i*256)).getD i []) ((eF f (i*256)).getD j []):=by
     by_cases hij:i=j
     ·rw[hij];exact .inl rfl
     ·exact .inr ((SN _ hz).2 i j (by omega) hj)
    exact(h3.trans hl).trans (.inr (Az u b))
  ·exact .inr ⟨h1,h2.trans (.inr (Az u b))⟩
theorem yx{acc:Nat->Bool}{i:Nat}(hz:∀ q,q< i*256->q / 256< (aR f 256 0 q).length)(hi:i< (aR f 256 0 (i*256)).length)(hno:∀ j,j< i->acc ((aR f 256 0 (i*256)).getD j 0)=false)(ha:acc ((aR f 256 0 (i*256)).getD i 0)=true):
  Gz (fun w=>acc (bZ f 0 w)) ((eF f (i*256)).getD i []):=by
 obtain⟨h1,h2⟩:=SN _ hz;refine⟨(h1 i hi).1,by show acc _=true;rw[(h1 i hi).2];exact ha,fun v hv hL=>?_⟩
 rcases found hz v hv with⟨j,hj,e,hl⟩|⟨_,h⟩
 ·by_cases hji:j< i
  ·have:=hno j hji
   rw[e]at this
   have hL':acc (bZ f 0 v)=true:=hL
   rw[this]at hL';cases hL'
  ·by_cases hij:i=j
   ·rw[hij];exact(by rw[hij]at hl;exact hl)
   ·exact ut.trans (.inr (h2 i j (by omega) hj)) hl
 ·exact h
theorem zy0{acc:Nat->Bool}{i:Nat}(hz:∀ q,q< i*256->q / 256< (aR f 256 0 q).length)(hi:(aR f 256 0 (i*256)).length<=i)(hno:∀ j,j< i->acc ((aR f 256 0 (i*256)).getD j 0)=false):
  ∀ v,Bytes v->acc (bZ f 0 v)=false:=fun v hv=>by
 rcases found hz v hv with⟨j,hj,e,_⟩|⟨h,_⟩
 ·rw[<-e];exact hno j (by omega)
 ·omega
end
end Go.Aut

namespace Go.Aut
theorem zuy:dm.length=256:=List.length_range
theorem QA{f:Nat->Nat->Nat}{nc b0 K:Nat}(hc:0< nc)(h0:b0< K)(hf:∀ x j,x< K->j< nc->f x j< K):∀ p,∀ x∈aP f nc b0 p,x< K
 |0,x,h=>by
  rw[aP]at h;rw[List.mem_singleton.1 h];exact h0
 | p+1,x,h=>by
  have ih:=QA hc h0 hf p
  rw[aP,je]at h
  split at h
  ·exact ih x h
  ·rcases List.mem_append.1 h with h|h
   ·exact ih x h
   ·rw[List.mem_singleton.1 h]
    refine hf _ _ ?_ (Nat.mod_lt _ hc);rw[List.getD_eq_getElem?_getD]
    cases e:(aP f nc b0 p)[p / nc]? with
    |none=>exact Nat.lt_of_le_of_lt (Nat.zero_le _) h0
    |some y=>exact ih y (List.mem_of_getElem? e)
theorem ND{l:List Nat}{K:Nat}(hn:l.Nodup)(h:∀ x∈l,x< K):l.length<=K:=by
 have:=List.Nodup.length_le_of_subset hn (l₂:=List.range K) fun x hx=>List.mem_range.2 (h x hx)
 simpa using this
theorem Vq{f:Nat->Nat->Nat}{nc b0 K:Nat}(hc:0< nc)(h0:b0< K)(hf:∀ x j,x< K->j< nc->f x j< K):∃ n,kW f nc b0 n/\n<=K:=by
 have hK:∀ p,(aP f nc b0 p).length<=K:=fun p=>ND (Lg p) (QA hc h0 hf p)
 obtain⟨n,hn,hlt⟩:=least (P:=fun i=>(aP f nc b0 (i*nc)).length<=i) ⟨K,hK _⟩
 have h1:0< n:=by
  rcases Nat.eq_zero_or_pos n with e|e
  ·subst e
   have:(aP f nc b0 (0*nc)).length=1:=by rw[Nat.zero_mul];rfl
   omega
  ·exact e
 have hlt':∀ i,i< n->i< (aP f nc b0 (i*nc)).length:=fun i hi=>by have:=hlt i hi;omega
 have h2:=hlt' (n - 1) (by omega)
 have h3:=Bf (f:=f) (nc:=nc) (b0:=b0) (p:=(n - 1)*nc) (q:=n*nc) (Nat.mul_le_mul_right _ (by omega))
 have h4:=hK (n*nc)
 exact⟨n,⟨hc,by omega,hlt'⟩,by omega⟩
theorem Gb(p:Nat->Bool):∃ x:UInt64,∀ j,j< 64->x.toNat.testBit j=p j:=by
 have key:∀ n,∃ x,x< 2 ^ n/\∀ j,j< n->Nat.testBit x j=p j:=by
  intro n
  induction n with
  |zero=>exact⟨0,by simp,fun j h=>absurd h (Nat.not_lt_zero j)⟩
  | succ n ih=>
   obtain⟨x,hx,h⟩:=ih
   cases e:p n with
   | false=>
    refine⟨x,by rw[Nat.pow_succ];omega,fun j hj=>?_⟩
    rcases Nat.lt_or_ge j n with h1|h1
    ·exact h j h1
    ·obtain rfl:j=n:=by omega
     rw[e,Nat.testBit_lt_two_pow hx]
   | true=>
    refine⟨2 ^ n+x,by rw[Nat.pow_succ];omega,fun j hj=>?_⟩
    rcases Nat.lt_or_ge j n with h1|h1
    ·rw[Nat.testBit_two_pow_add_gt h1];exact h j h1
    ·obtain rfl:j=n:=by omega
     rw[e,Nat.testBit_two_pow_add_eq,Nat.testBit_lt_two_pow hx];rfl
 obtain⟨x,hx,h⟩:=key 64;refine⟨UInt64.ofNat x,fun j hj=>?_⟩;rw[UInt64.toNat_ofNat_of_lt' hx];exact h j hj
theorem B6(n:Nat)(p:Nat->Nat->Bool):∃ l:List UInt64,l.length=n*4/\∀ c b,c< n->b< 256->bv l c b=p c b:=by
 have hw:=fun i=>Gb (fun j=>p (i / 4) (i%4*64+j))
 refine⟨(List.range (n*4)).map fun i=>Classical.choose (hw i),by simp,fun c b hc hb=>?_⟩
 have hi:c*4+b / 64< n*4:=by omega
 rw[bv,List.getD_eq_getElem?_getD,List.getElem?_map,List.getElem?_range hi]
 show(Classical.choose (hw (c*4+b / 64))).toNat.testBit (b%64)=_
 rw[Classical.choose_spec (hw (c*4+b / 64)) (b%64) (Nat.mod_lt _ (by decide))];rw[show(c*4+b / 64) / 4=c by omega,show(c*4+b / 64)%4*64+b%64=b by omega]
theorem zlk{m:kK}{L M:List Nat->Bool}(h:aj m L)(e:∀ w,Bytes w->L w=M w):aj m M:=
 ⟨h.pos,h.cpos,h.cellOK,h.nextOK,fun w hw=>by rw[h.lang w hw,e w hw],h.apart,h.capart,h.cfirst,h.conto,h.first,h.onto⟩
theorem CK{L M:List Nat->Bool}(e:∀ w,Bytes w->L w=M w):af L=af M:=by
 have h:(fun d:Dfa=>d.ok/\aj (lV d) L)=fun d:Dfa=>d.ok/\aj (lV d) M:=funext fun d=>propext ⟨fun h=>⟨h.1,zlk h.2 e⟩,fun h=>⟨h.1,zlk h.2 fun w hw=>(e w hw).symm⟩⟩
 unfold af
 have h2:∀ (p q:Dfa->Prop) (e:p=q) (x:Decidable (∃ d,p d)) (y:Decidable (∃ d,q d)),(if h:∃ d,p d then Classical.choose h else(⟨[],0,[],[]⟩:Dfa))=if h:∃ d,q d then Classical.choose h else⟨[],0,[],[]⟩:=by
  intro p q e x y;subst e;congr
 exact h2 _ _ h _ _
open Classical in
noncomputable def jg(t:iG)(s:Nat):List Nat->Bool:=fun w=>if Bytes w then t.lang s w else false
theorem CZ{t:iG}{s q:Nat}:jg t s=jg t q↔∀ w,Bytes w->t.lang s w=t.lang q w:=by
 constructor
 ·intro e w hw
  have:=congrFun e w
  simpa [jg,hw]using this
 ·intro e
  funext w
  by_cases hw:Bytes w
  ·simp[jg,hw,e w hw]
  ·simp[jg,hw]
attribute [local irreducible] dm
open Classical in
theorem zgn{t:iG}{N:Nat}(hN:0< N)(hnc:0< t.nc)(hδ:∀ s c,s< N->c< t.nc->t.δ s c< N)(hcell:∀ b,b< 256->t.cell b< t.nc)(hby:∀ c,c< t.nc->∃ b,b< 256/\t.cell b=c):
  ∃ d:Dfa,d.ok/\aj (lV d) (t.lang 0)/\d.next.length<=N:=by
 obtain⟨n,hn,hnN⟩:=Vq hnc hN hδ
 have hbl:(mQ t n).length=n:=hn.len
 let k:=(aY (jg t) (mQ t n)).length
 let block:=lH (jg t) (mQ t n)
 have honto:∀ i,∃ s,i< k->s∈mQ t n/\block s=i:=fun i=>by
  by_cases hi:i< k
  ·obtain⟨s,hs,e⟩:=Iv (key:=jg t) (l:=mQ t n) hi
   exact⟨s,fun _=>⟨s |> fun _=>hs,e⟩⟩
  ·exact⟨0,fun h=>absurd h hi⟩
 obtain⟨reps,hreps⟩:=Classical.axiomOfChoice honto
 have hblk:∀ s,s∈mQ t n->block s< k:=fun s hs=>vG hs
 have hst:∀ s q,s∈mQ t n->q∈mQ t n->block s=block q->t.acc s=t.acc q/\∀ c,c< t.nc->block (t.δ s c)=block (t.δ q c):=by
  intro s q hs hq e
  have e1:=CZ.1 ((vH hs hq).1 e)
  refine⟨e1 [] Bytes.nil,fun c hc=>(vH (PV hn s c hs hc) (PV hn q c hq hc)).2 (CZ.2 fun w hw=>?_)⟩;obtain⟨b,hb,rfl⟩:=hby c hc;exact e1 (b::w) (Bytes.cons hb hw)
 have hsnd:nQ t (mQ t n) block:=by
  intro s q hs hq hne
  have h1:jg t s≠jg t q:=fun e=>hne ((vH hs hq).2 e)
  rw[Ne,CZ]at h1;obtain⟨w,hw⟩:=Classical.not_forall.1 h1;exact⟨w,Classical.not_imp.1 hw⟩
 have hro:∀ j,∃ c,j< l9 t block reps k->c< t.nc/\mG t block reps k c=j:=fun j=>by
  by_cases hj:j< l9 t block reps k
  ·obtain⟨b,hb,e⟩:=Iv (key:=keyBy t block reps k) (l:=dm) hj
   exact⟨t.cell b,fun _=>⟨hcell b (z57.1 hb),by rw[QV];exact e⟩⟩
  ·exact⟨0,fun h=>absurd h hj⟩
 obtain⟨rep,hrep⟩:=Classical.axiomOfChoice hro
 have hred:=AB hn hcell hby hblk hreps hst hsnd hrep
 have hk0:block 0< k:=hblk 0 Sq
 obtain⟨m,hm,hmk⟩:=Vq (f:=bf t block reps rep) (b0:=block 0) hred.npos hk0 fun x j hx hj=>hblk _ (PV hn _ _ (hreps x hx).1 (hrep j hj).1)
 have hcan:=zpu hred hm
 have hnc256:l9 t block reps k<=256:=by
  have:=vZ (key:=keyBy t block reps k) dm
  rw[zuy]at this;exact this
 obtain⟨cls,hcl,hcls⟩:=B6 (l9 t block reps k) fun c b=>decide (mG t block reps k (t.cell b)=c)
 let d:Dfa:={ cls:=cls,nc:=l9 t block reps k,next:=(List.range m).map fun s=>(List.range (l9 t block reps k)).map fun c=>((num (bf t block reps rep) (l9 t block reps k) (block 0) m s c:Nat):Int),acc:=(List.range m).map fun s=>t.acc (reps ((aP (bf t block reps rep) (l9 t block reps k) (block 0) (m*l9 t block reps k)).getD s 0)) }
 have hl:Laid d t block reps (mG t block reps k) rep (l9 t block reps k) m:=by
  refine⟨rfl,hnc256,hcl,fun j b hj hb=>by rw[hcls j b hj hb,decide_eq_true_eq],by simp[d],fun s hs=>?_,by simp[d],fun s hs=>?_⟩
  ·have e:d.next.getD s []=(List.range (l9 t block reps k)).map fun c=>((num (bf t block reps rep) (l9 t block reps k) (block 0) m s c:Nat):Int):=by simp[d,List.getD_eq_getElem?_getD,hs]
   rw[e];exact⟨by simp,fun c hc=>by simp[List.getD_eq_getElem?_getD,hc]⟩
  ·simp[d,List.getD_eq_getElem?_getD,hs]
 obtain⟨h1,h2⟩:=zli hred hm hl
 have hkn:k<=N:=Nat.le_trans (vZ _) (by rw[hbl];exact hnN)
 exact⟨d,h1,h2,by rw[hl.nlen];omega⟩
theorem Sy{t:Tab}(h:t.ok):(af ((aD t).lang 0)).ok/\aj (lV (af ((aD t).lang 0))) ((aD t).lang 0)/\(af ((aD t).lang 0)).next.length<=t.next.length:=by
 have hnc:0< (aD t).nc:=Nat.lt_of_le_of_lt (Nat.zero_le _) (Tab.cell_lt h (b:=0) (by decide)).1
 obtain⟨d,h1,h2,h3⟩:=zgn h.npos hnc (fun s c hs hc=>(Tab.next_lt h hs hc).1) (fun b hb=>(Tab.cell_lt h hb).1) h.byte;rw[P7 h1 h2];exact⟨h1,h2,h3⟩
theorem zuz{d:Dfa}(h:d.ok):(af (aT d)).ok/\aj (lV (af (aT d))) (aT d)/\(af (aT d)).next.length<=d.next.length:=by
 obtain⟨e,h1,h2,h3⟩:=zgn (t:=gq d) h.npos h.cpos (fun s c hs hc=>(next_lt h hs hc).1) (fun b hb=>(P6 h hb).1) fun c hc=>by
  obtain⟨b,hb,e⟩:=h.full c hc;exact⟨b,hb,(Sw h hb hc).2 e⟩
 have h2':aj (lV e) (aT d):=h2
 rw[P7 h1 h2'];exact⟨h1,h2',h3⟩
end Go.Aut

namespace Go.Aut
def aG(l:List Nat):List Int:=l.map Int.ofNat
@[simp] theorem jH(l:List Nat):(aG l).length=l.length:=by simp[aG]
theorem jd{l:List Nat}{i:Nat}:(aG l).getD i 0=(l.getD i 0:Nat):=by
 rw[aG,List.getD_eq_getElem?_getD,List.getD_eq_getElem?_getD,List.getElem?_map]
 cases l[i]? <;>rfl
theorem z39(l:List Nat)(x:Nat):aG l++[(x:Int)]=aG (l++[x]):=by simp[aG]
theorem qb{α:Type}{l:List α}{i:Nat}{d:α}(h:i< l.length):l.getD i d=l[i]:=by
 rw[List.getD_eq_getElem?_getD,List.getElem?_eq_getElem h];rfl
theorem JC{α:Type}{l:List α}{i:Nat}{d x:α}(h:l[i]? =some x):l.getD i d=x:=by
 rw[List.getD_eq_getElem?_getD,h];rfl
theorem jB{α:Type}{l:List α}{i:Nat}{d:α}(h:i< l.length):l[i]? =some (l.getD i d):=by
 rw[qb h,List.getElem?_eq_getElem h]
theorem iy{α:Type}{n i:Nat}{f:Nat->α}{d:α}(h:i< n):((List.range n).map f).getD i d=f i:=by
 rw[List.getD_eq_getElem?_getD,List.getElem?_map,List.getElem?_range h];rfl
theorem o9{α:Type}{l m:List α}(d:α)(h:l.length=m.length)(e:∀ i,i< l.length->l.getD i d=m.getD i d):l=m:=by
 refine List.ext_getElem h fun i h1 h2=>?_
 have:=e i h1
 rwa [qb h1,qb h2]at this
theorem my{α:Type}{l:List α}{i j:Nat}{x d:α}(h:j< l.length):(l.set i x).getD j d=if i=j then x else l.getD j d:=by
 rw[List.getD_eq_getElem?_getD,List.getElem?_set,List.getD_eq_getElem?_getD]
 by_cases e:i=j
 ·subst e;simp[h]
 ·simp[e]
def eG(c:List UInt64):List UInt8:=((List.range 256).filter fun b=>(c.getD (b / 64) 0).toNat.testBit (b%64)).map UInt8.ofNat
theorem zy1{c:List UInt64}{b:Nat}(hb:b< 256):b∈(eG c).map UInt8.toNat↔(c.getD (b / 64) 0).toNat.testBit (b%64)=true:=by
 rw[eG,List.map_map]
 constructor
 ·intro h
  obtain⟨x,hx,e⟩:=List.mem_map.1 h;obtain⟨h1,h2⟩:=List.mem_filter.1 hx
  have h1:=List.mem_range.1 h1
  have:x=b:=by
   have e:(UInt8.ofNat x).toNat=b:=e
   rw[UInt8.toNat_ofNat_of_lt' h1]at e;exact e
  rw[<-this];exact h2
 ·intro h;exact List.mem_map.2 ⟨b,List.mem_filter.2 ⟨List.mem_range.2 hb,h⟩,UInt8.toNat_ofNat_of_lt' hb⟩
theorem XI(c:List UInt64):(eG c).length<=256:=by
 rw[eG,List.length_map];exact Nat.le_trans (List.length_filter_le _ _) (by simp)
def cr(l:List Int)(bs:List UInt8)(k:Int):List Int:=bs.foldl (fun l b=>l.set b.toNat k) l
@[simp] theorem I8(l:List Int)(bs:List UInt8)(k:Int):(cr l bs k).length=l.length:=by
 unfold cr
 induction bs generalizing l with
 |nil=>rfl
 |cons b bs ih=>rw[List.foldl_cons,ih,List.length_set]
theorem y06(l:List Int){bs:List UInt8}{j:Nat}(k:Int)(h:j< bs.length):(cr l (bs.take j) k).set (bs.getD j 0).toNat k=cr l (bs.take (j+1)) k:=by
 rw[List.take_add_one,cr,cr,List.foldl_append,jB (d:=0) h];rfl
theorem zv0(k:Int){b:Nat}:∀ (bs:List UInt8) (l:List Int),b< l.length->(cr l bs k).getD b 0=if b∈bs.map UInt8.toNat then k else l.getD b 0
 |[],l,h=>by simp[cr]
 | x::bs,l,h=>by
  show(cr (l.set x.toNat k) bs k).getD b 0=_
  rw[zv0 k bs _ (by rw[List.length_set];exact h),my h,List.map_cons]
  by_cases e1:b∈bs.map UInt8.toNat
  ·rw[if_pos e1,if_pos (List.mem_cons_of_mem _ e1)]
  ·rw[if_neg e1]
   by_cases e2:x.toNat=b
   ·rw[if_pos e2,if_pos (by rw[e2];exact List.mem_cons_self)]
   ·rw[if_neg e2,if_neg]
    intro h
    rcases List.mem_cons.1 h with h|h
    ·exact e2 h.symm
    ·exact e1 h
def gz(d:Dfa)(k:Nat):List Int:=(List.range 256).map fun b=>((((List.range k).find? fun c=>bv d.cls c b).getD 0:Nat):Int)
@[simp] theorem zn3(d:Dfa)(k:Nat):(gz d k).length=256:=by simp[gz]
theorem zsk(d:Dfa):gz d 0=List.replicate 256 0:=by simp[gz,List.map_const']
theorem TW{l:List UInt64}{k b:Nat}(hb:b< 256):(((l.drop (k*4)).take 4).getD (b / 64) 0).toNat.testBit (b%64)=bv l k b:=by
 rw[bv,List.getD_eq_getElem?_getD,List.getElem?_take_of_lt (by omega),List.getElem?_drop, <-List.getD_eq_getElem?_getD]
theorem zsl{d:Dfa}(h:d.ok){k:Nat}(hk:k< d.nc):cr (gz d k) (eG ((d.cls.drop (k*4)).take 4)) (k:Int)=gz d (k+1):=by
 refine o9 0 (by simp) fun b hb=>?_
 have hb:b< 256:=by simpa using hb
 have hm:=zy1 (c:=(d.cls.drop (k*4)).take 4) hb
 rw[TW hb]at hm;rw[zv0 _ _ _ (by simpa using hb),gz,gz,iy hb,iy hb,List.range_succ,List.find?_append];obtain⟨c,hc,hx⟩:=h.part b hb
 by_cases e:k=c
 ·subst e
  rw[if_pos (hm.2 ((hx k hk).2 rfl))]
  have:(List.range k).find? (fun c=>bv d.cls c b)=none:=List.find?_eq_none.2 fun y hy hh=>by
   have:=List.mem_range.1 hy
   have:=(hx y (by omega)).1 hh
   omega
  rw[this]
  simp[(hx k hk).2 rfl]
 ·have e2:¬ bv d.cls k b=true:=fun hh=>e ((hx k hk).1 hh)
  rw[if_neg fun hh=>e2 (hm.1 hh)]
  have:[k].find? (fun c=>bv d.cls c b)=none:=by simp[e2]
  rw[this,Option.or_none]
def ag(d:Dfa):Tab:={ cell:=gz d d.nc,nc:=d.nc,next:=d.next,acc:=d.acc }
theorem SQ{d:Dfa}{b:Nat}(hb:b< 256):(aD (ag d)).cell b=eO d b:=by
 show((gz d d.nc).getD b 0).toNat=_
 rw[gz,iy hb];rfl
theorem nJ{d:Dfa}(h:d.ok):(ag d).ok:=by
 refine⟨by simp[ag],fun x hx=>?_,h.npos,h.alen,h.rows,fun c hc=>?_⟩
 ·obtain⟨b,hb,rfl⟩:=List.mem_map.1 hx
  have:=(P6 h (List.mem_range.1 hb)).1
  rw[eO]at this
  show 0<=_/\_< ((d.nc:Nat):Int)
  omega
 ·obtain⟨b,hb,e⟩:=h.full c hc
  exact⟨b,hb,by rw[SQ hb];exact(Sw h hb hc).2 e⟩
theorem zv1(d:Dfa):∀ (w:List Nat) (s:Nat),Bytes w->(aD (ag d)).run s w=(gq d).run s w
 |[],_,_=>rfl
 |b::w,s,hw=>by
  show(aD (ag d)).run ((aD (ag d)).δ s ((aD (ag d)).cell b)) w=(gq d).run (iJ d s (eO d b)) w
  rw[SQ (hw b List.mem_cons_self)];exact zv1 d w _ fun x hx=>hw x (List.mem_cons_of_mem _ hx)
theorem uT(d:Dfa){w:List Nat}(s:Nat)(hw:Bytes w):(aD (ag d)).lang s w=(gq d).lang s w:=by
 show(ag d).acc.getD _ false=d.acc.getD _ false
 rw[zv1 d w s hw];rfl
def fw(l:List Nat)(N:Nat):List Bool:=(List.range N).map fun s=>decide (s∈l)
@[simp] theorem vX(l:List Nat)(N:Nat):(fw l N).length=N:=by simp[fw]
theorem P8{l:List Nat}{N s:Nat}(h:s< N):(fw l N).getD s false=decide (s∈l):=by rw[fw,iy h]
theorem SS{l:List Nat}{N s:Nat}:(fw l N).set s true=fw (l++[s]) N:=by
 refine o9 false (by simp) fun i hi=>?_
 have hi:i< N:=by simpa using hi
 rw[my (by simpa using hi),P8 hi,P8 hi]
 by_cases e:s=i
 ·subst e;simp
 ·rw[if_neg e]
  congr 1
  rw[List.mem_append,List.mem_singleton];exact propext ⟨.inl,fun h=>h.elim id fun h=>absurd h.symm e⟩
theorem XJ(N:Nat):(List.replicate N false).set 0 true=fw [0] N:=by
 have:List.replicate N false=fw [] N:=by simp[fw,List.map_const']
 rw[this,SS];rfl
theorem SX{f:Nat->Nat->Nat}{nc b0 i k:Nat}(hk:k< nc):aP f nc b0 (i*nc+k+1)=je (aP f nc b0 (i*nc+k)) (f ((aP f nc b0 (i*nc+k)).getD i 0) k):=by
 obtain⟨h1,h2⟩:=Xc (s:=i) (nc:=nc) (by omega) hk;rw[aP,h1,h2]
theorem zh{f:Nat->Nat->Nat}{nc b0:Nat}(p:Nat):0< (aP f nc b0 p).length:=by
 have:=Bf (f:=f) (nc:=nc) (b0:=b0) (Nat.zero_le p)
 have h1:(aP f nc b0 0).length=1:=rfl
 omega
theorem SY{f:Nat->Nat->Nat}{nc b0 i:Nat}(hc:0< nc)(ha:∀ j,j< i->j< (aP f nc b0 (j*nc)).length)(h:(aP f nc b0 (i*nc)).length<=i):kW f nc b0 i:=by
 refine⟨hc,?_,ha⟩
 rcases Nat.eq_zero_or_pos i with e|e
 ·subst e;have:=zh (f:=f) (nc:=nc) (b0:=b0) (0*nc);omega
 ·have h2:=ha (i - 1) (by omega)
  have h3:=Bf (f:=f) (nc:=nc) (b0:=b0) (p:=(i - 1)*nc) (q:=i*nc) (Nat.mul_le_mul_right _ (by omega))
  omega
end Go.Aut

namespace Go.Aut
theorem WY{K:Type}[DecidableEq K]{key:Nat->K}(a b:List Nat):∃ r,aY key (a++b)=aY key a++r:=by
 rw[aY,List.foldl_append];exact R9 b _
theorem Lr{K:Type}[DecidableEq K]{o r:List K}{x:K}(h:x∈o):fF (o++r) x=fF o x:=by rw[fF,fF,List.idxOf_append,if_pos h]
theorem MF{K:Type}[DecidableEq K]{o:List K}(hn:o.Nodup){i:Nat}{x:K}(h:o[i]? =some x):fF o x=i:=by
 obtain⟨hi,e⟩:=List.getElem?_eq_some_iff.1 h;rw[<-e];exact hn.idxOf_getElem i hi
theorem Ls{K:Type}[DecidableEq K]{o:List K}{x:K}(h:x∉o):fF (o++[x]) x=o.length:=by
 rw[fF,List.idxOf_append,if_neg h];simp
theorem YZ{K:Type}[DecidableEq K]{key:Nat->K}{l:List Nat}{j s:Nat}(h:s∈l.take j):fF (aY key (l.take j)) (key s)=lH key l s:=by
 obtain⟨r,hr⟩:=WY (key:=key) (l.take j) (l.drop j);rw[List.take_append_drop]at hr;rw[ZA,hr,Lr ((qW _ _).2 ⟨s,h,rfl⟩)]
theorem Mr{l:List Nat}{j:Nat}(h:j< l.length):l.take (j+1)=l.take j++[l.getD j 0]:=by
 rw[List.take_add_one,jB (d:=0) h];rfl
def aM(bl:List Nat)(s:Nat):Nat:=bl.getD s 0
def cz(t:iG)(l bl:List Nat)(j:Nat):List Nat:=(List.range bl.length).map fun s=>if s∈l.take j then fu t l (aM bl) s else 0
@[simp] theorem Bh(t:iG)(l bl:List Nat)(j:Nat):(cz t l bl j).length=bl.length:=by simp[cz]
theorem zq3(t:iG)(l bl:List Nat):cz t l bl 0=List.replicate bl.length 0:=by simp[cz,List.map_const']
theorem Pi{t:iG}{l bl:List Nat}{j s:Nat}(h:s< bl.length):(cz t l bl j).getD s 0=if s∈l.take j then fu t l (aM bl) s else 0:=by rw[cz,iy h]
theorem S7{t:iG}{l bl:List Nat}{j:Nat}(h:j< l.length):(cz t l bl j).set (l.getD j 0) (fu t l (aM bl) (l.getD j 0))=cz t l bl (j+1):=by
 refine o9 0 (by simp) fun i hi=>?_
 have hi:i< bl.length:=by simpa using hi
 rw[my (by simpa using hi),Pi hi,Pi hi,Mr h]
 by_cases e:l.getD j 0=i
 ·subst e;simp
 ·rw[if_neg e]
  have:i∈l.take j++[l.getD j 0]↔i∈l.take j:=by
   rw[List.mem_append,List.mem_singleton];exact⟨fun h=>h.elim id fun h=>absurd h.symm e,.inl⟩
  simp only[this]
structure vN(t:iG)(l bl:List Nat)(N c:Nat):Prop where
 len:bl.length=N
 snd:nQ t l (aM bl)
 acc:∀ s q,s∈l->q∈l->aM bl s=aM bl q->t.acc s=t.acc q
 few:∀ x∈bl,x< 65536
 on:0< c->(∀ s,s∈l->aM bl s< c)/\∀ v,v< c->∃ s,s∈l/\aM bl s=v
theorem y07{t:iG}{l bl:List Nat}{N:Nat}(hN:bl.length=N)(h:∀ s,s< N->bl.getD s 0=if s∈l/\t.acc s=true then 1 else 0)(hl:∀ s∈l,s< N):vN t l bl N 0:=by
 have hv:∀ s,s∈l->(aM bl s=1↔t.acc s=true):=fun s hs=>by
  rw[aM,h s (hl s hs)]
  by_cases e:t.acc s=true
  ·simp[hs,e]
  ·simp[e]
 have h01:∀ s,s∈l->aM bl s=0\/aM bl s=1:=fun s hs=>by
  rw[aM,h s (hl s hs)];split<;>simp
 refine⟨hN,fun s q hs hq hne=>⟨[],Bytes.nil,?_⟩,fun s q hs hq e=>?_,fun x hx=>?_,fun h=>absurd h (Nat.lt_irrefl 0)⟩
 ·show t.acc s≠t.acc q
  intro e
  have h1:=hv s hs
  have h2:=hv q hq
  rw[e]at h1
  rcases h01 s hs with a|a<;>rcases h01 q hq with b|b
  ·exact hne (a.trans b.symm)
  ·have:=h1.2 (h2.1 b);omega
  ·have:=h2.2 (h1.1 a);omega
  ·exact hne (a.trans b.symm)
 ·have h1:=hv s hs
  have h2:=hv q hq
  rw[e]at h1
  cases e1:t.acc s<;>cases e2:t.acc q<;>simp_all
 ·obtain⟨i,hi,rfl⟩:=List.mem_iff_getElem.1 hx
  have:=h i (by omega)
  rw[qb hi]at this
  rw[this];split<;>decide
structure kg(t:iG)(l bl reps:List Nat)(N:Nat):Prop where
 len:bl.length=N
 few:∀ x∈bl,x< 65536
 blk:∀ s,s∈l->aM bl s< reps.length
 rep:∀ i,i< reps.length->reps.getD i 0∈l/\aM bl (reps.getD i 0)=i
 stable:∀ s q,s∈l->q∈l->aM bl s=aM bl q->t.acc s=t.acc q/\∀ c,c< t.nc->aM bl (t.δ s c)=aM bl (t.δ q c)
 snd:nQ t l (aM bl)
theorem TX{t:iG}{l bl:List Nat}{s:Nat}(hs:s∈l)(hl:s< bl.length):aM (cz t l bl l.length) s=fu t l (aM bl) s:=by
 rw[aM,Pi hl,List.take_length,if_pos hs]
theorem EW{t:iG}{l bl:List Nat}(hl:l.length<=65535):∀ x∈cz t l bl l.length,x< 65536:=fun x hx=>by
 obtain⟨s,hs,rfl⟩:=List.mem_map.1 hx
 split
 ·rename_i h
  rw[List.take_length]at h
  have h1:fu t l (aM bl) s< z36 t l (aM bl):=vG h
  have h2:z36 t l (aM bl)<=l.length:=vZ l
  omega
 ·decide
theorem zsm{t:iG}{l:List Nat}{f g:Nat->Nat}(h:nQ t l f)(e:∀ s,s∈l->g s=f s):nQ t l g:=fun s q hs hq hne=>h s q hs hq (by rw[<-e s hs, <-e q hq];exact hne)
section
variable {t:iG} {l bl:List Nat} {N c:Nat}
theorem Sz(h:vN t l bl N c)(hl:∀ s∈l,s< N)(hlen:l.length<=65535)(hcl:∀ s c,s∈l->c< t.nc->t.δ s c∈l)(hby:∀ c,c< t.nc->∃ b,b< 256/\t.cell b=c):vN t l (cz t l bl l.length) N (z36 t l (aM bl)):=by
 have e:∀ s,s∈l->aM (cz t l bl l.length) s=fu t l (aM bl) s:=fun s hs=>TX hs (by rw[h.len];exact hl s hs)
 refine⟨by rw[Bh];exact h.len,zsm (zxv hcl hby h.snd) e,fun s q hs hq he=>?_,EW hlen,fun _=>⟨fun s hs=>by rw[e s hs];exact vG hs,fun v hv=>?_⟩⟩
 ·rw[e s hs,e q hq]at he
  exact h.acc s q hs hq (Xd hs hq he).1
 ·obtain⟨s,hs,hv⟩:=Iv (key:=kD t (aM bl)) (l:=l) hv
  exact⟨s,hs,by rw[e s hs];exact hv⟩
theorem zq4(h:vN t l bl N c)(h0:0< c):c<=z36 t l (aM bl):=zxw (h.on h0).2
theorem zv2:z36 t l (aM bl)<=l.length:=vZ l
theorem S8(h:0< l.length):0< z36 t l (aM bl):=by
 have:l[0]∈l:=List.getElem_mem h
 exact List.length_pos_of_mem ((qW l _).2 ⟨l[0],this,rfl⟩)
theorem zv3(h:vN t l bl N c)(hc:z36 t l (aM bl)=c)(hpos:0< l.length)(hl:∀ s∈l,s< N)(hlen:l.length<=65535)(hcl:∀ s c,s∈l->c< t.nc->t.δ s c∈l)(hby:∀ c,c< t.nc->∃ b,b< 256/\t.cell b=c):
  kg t l (cz t l bl l.length) (dK (kD t (aM bl)) l) N:=by
 have e:∀ s,s∈l->aM (cz t l bl l.length) s=fu t l (aM bl) s:=fun s hs=>TX hs (by rw[h.len];exact hl s hs)
 have hn:=Sz h hl hlen hcl hby
 have h0:0< c:=by rw[<-hc];exact S8 hpos
 have hrl:(dK (kD t (aM bl)) l).length=z36 t l (aM bl):=qU l
 refine⟨hn.len,hn.few,fun s hs=>by rw[hrl,e s hs];exact vG hs,fun i hi=>?_,fun s q hs hq he=>?_,hn.snd⟩
 ·rw[hrl]at hi
  obtain⟨s,hs,rfl⟩:=Iv (key:=kD t (aM bl)) (l:=l) hi;obtain⟨r,h1,h2,h3⟩:=Rv (key:=kD t (aM bl)) hs;rw[JC h1];exact⟨h3,by rw[e r h3];exact(vH h3 hs).2 h2⟩
 ·rw[e s hs,e q hq]at he
  have hst:=zsf (t:=t) (l:=l) (block:=aM bl) hcl h.acc (by rw[hc];exact(h.on h0).1) (by rw[hc];exact(h.on h0).2) hs hq he
  refine⟨hst.1,fun d hd=>?_⟩;rw[e _ (hcl s d hs hd),e _ (hcl q d hq hd)];exact hst.2 d hd
end
def two(x:Int):List UInt8:=[UInt8.ofInt x,UInt8.ofInt (x / 2 ^ 8)]
def gU(l:List Nat):List UInt8:=l.flatMap fun x:Nat=>two (Int.ofNat x)
theorem G7{x y:Nat}(hx:x< 65536)(hy:y< 65536)(h:two x=two y):x=y:=by
 have h1:UInt8.ofInt (x:Int)=UInt8.ofInt (y:Int):=by injection h
 have h2:UInt8.ofInt ((x:Int) / 2 ^ 8)=UInt8.ofInt ((y:Int) / 2 ^ 8):=by injection h with _ h;injection h
 have e:∀ z:Int,0<=z->(UInt8.ofInt z).toNat=z.toNat%256:=fun z hz=>by
  obtain⟨n,rfl⟩:=Int.eq_ofNat_of_zero_le hz
  simp[UInt8.ofInt]
  omega
 have a:=congrArg UInt8.toNat h1
 have b:=congrArg UInt8.toNat h2
 rw[e _ (by omega),e _ (by omega)]at a b
 omega
theorem Y0:∀ {l m:List Nat},l.length=m.length->(∀ x∈l,x< 65536)->(∀ x∈m,x< 65536)->gU l=gU m->l=m
 |[],[],_,_,_,_=>rfl
 |x::l,y::m,hl,h1,h2,h=>by
  have h:two x++gU l=two y++gU m:=h
  obtain⟨a,b⟩:=List.append_inj h rfl;rw[G7 (h1 x List.mem_cons_self) (h2 y List.mem_cons_self) a,Y0 (by simpa using hl) (fun z hz=>h1 z (List.mem_cons_of_mem _ hz)) (fun z hz=>h2 z (List.mem_cons_of_mem _ hz)) b]
 |[],_::_,hl,_,_,_=>by simp at hl
 |_::_,[],hl,_,_,_=>by simp at hl
theorem zq5(l:List Nat)(x:Nat):gU l++two (x:Int)=gU (l++[x]):=by simp[gU]
theorem zv4(l:List Nat):(gU l).length=2*l.length:=by
 induction l with
 |nil=>rfl
 |cons x l ih=>show(two x++gU l).length=_;rw[List.length_append,ih];simp[two];omega
end Go.Aut

namespace Go.Aut
section
variable {t:iG} {block reps:Nat->Nat} {k:Nat}
def mq(t:iG)(block reps:Nat->Nat)(k b:Nat):List (List Nat):=aY (keyBy t block reps k) (List.range b)
open Classical in
noncomputable def tq(t:iG)(block reps:Nat->Nat)(k b:Nat):List Int:=(List.range t.nc).map fun c=>if ∃ a,a< b/\t.cell a=c then(mG t block reps k c:Int)else -1
def rf(t:iG)(block reps:Nat->Nat)(k b:Nat):List Nat:=(dK (keyBy t block reps k) (List.range b)).map t.cell
theorem Y1(b:Nat):mq t block reps k (b+1)=fZ (mq t block reps k b) (jX t block reps k (t.cell b)):=by
 rw[mq,List.range_succ,z41];rfl
theorem EQ{b:Nat}(hb:b<=256):∃ r,aY (keyBy t block reps k) dm=mq t block reps k b++r:=by
 have e:dm=List.range b++(List.range' b (256 - b)):=by
  have:=List.range'_append (s:=0) (m:=b) (n:=256 - b) (step:=1)
  rw[Nat.one_mul,Nat.zero_add,show b+(256 - b)=256 by omega]at this;rw[dm,List.range_eq_range',List.range_eq_range',this]
 obtain⟨r,hr⟩:=WY (key:=keyBy t block reps k) (List.range b) (List.range' b (256 - b));exact⟨r,by rw[e,hr];rfl⟩
theorem TY{b c:Nat}:jX t block reps k c∈mq t block reps k b↔∃ a,a< b/\jX t block reps k (t.cell a)=jX t block reps k c:=by
 rw[mq,qW]
 constructor
 ·rintro ⟨a,ha,e⟩;exact⟨a,List.mem_range.1 ha,e⟩
 ·rintro ⟨a,ha,e⟩;exact⟨a,List.mem_range.2 ha,e⟩
theorem QW{b c:Nat}(hb:b<=256)(h:jX t block reps k c∈mq t block reps k b):fF (mq t block reps k b) (jX t block reps k c)=mG t block reps k c:=by
 obtain⟨r,hr⟩:=EQ (t:=t) (block:=block) (reps:=reps) (k:=k) hb;rw[mG,hr,Lr h]
theorem y08{b:Nat}(hb:b< 256)(h:jX t block reps k (t.cell b)∉mq t block reps k b):mG t block reps k (t.cell b)=(mq t block reps k b).length:=by
 have e:mq t block reps k (b+1)=mq t block reps k b++[jX t block reps k (t.cell b)]:=by rw[Y1,fZ,if_neg h]
 rw[<-QW (b:=b+1) (by omega) (by rw[e];simp),e,Ls h]
theorem zT{b c:Nat}(h:jX t block reps k (t.cell b)∈mq t block reps k b):mq t block reps k (b+1)=mq t block reps k b:=by rw[Y1,fZ,if_pos h]
theorem ER{b c:Nat}(h:jX t block reps k (t.cell b)∉mq t block reps k b):mq t block reps k (b+1)=mq t block reps k b++[jX t block reps k (t.cell b)]:=by rw[Y1,fZ,if_neg h]
theorem zP{b c:Nat}(h:jX t block reps k (t.cell b)∈mq t block reps k b):rf t block reps k (b+1)=rf t block reps k b:=by
 have h':keyBy t block reps k b∈aY (keyBy t block reps k) (List.range b):=h
 rw[rf,List.range_succ,Bg,if_pos h'];rfl
theorem EP{b c:Nat}(h:jX t block reps k (t.cell b)∉mq t block reps k b):rf t block reps k (b+1)=rf t block reps k b++[t.cell b]:=by
 have h':keyBy t block reps k b∉aY (keyBy t block reps k) (List.range b):=h
 rw[rf,List.range_succ,Bg,if_neg h',List.map_append];rfl
@[simp] theorem z59(b:Nat):(rf t block reps k b).length=(mq t block reps k b).length:=by
 rw[rf,List.length_map,qU];rfl
theorem zV:tq t block reps k 0=List.replicate t.nc (-1):=by simp[tq,List.map_const']
@[simp] theorem XK(b:Nat):(tq t block reps k b).length=t.nc:=by simp[tq]
theorem QB{b c:Nat}(hc:c< t.nc)(h:¬ ∃ a,a< b/\t.cell a=c):(tq t block reps k b).getD c 0= -1:=by rw[tq,iy hc,if_neg h]
theorem JD{b c:Nat}(hc:c< t.nc)(h:∃ a,a< b/\t.cell a=c):(tq t block reps k b).getD c 0=(mG t block reps k c:Int):=by rw[tq,iy hc,if_pos h]
theorem y09{b:Nat}(hc:t.cell b< t.nc):(tq t block reps k b).set (t.cell b) (mG t block reps k (t.cell b):Int)=tq t block reps k (b+1):=by
 refine o9 0 (by simp) fun i hi=>?_
 have hi:i< t.nc:=by simpa using hi
 rw[my (by simpa using hi)]
 by_cases e:t.cell b=i
 ·rw[if_pos e, <-e,JD hc ⟨b,by omega,rfl⟩]
 ·rw[if_neg e]
  by_cases h:∃ a,a< b/\t.cell a=i
  ·rw[JD hi h,JD hi (by obtain⟨a,ha,h⟩:=h;exact⟨a,by omega,h⟩)]
  ·rw[QB hi h,QB hi]
   rintro ⟨a,ha,h2⟩
   rcases Nat.lt_or_ge a b with h3|h3
   ·exact h ⟨a,h3,h2⟩
   ·exact e (by rw[show b=a by omega];exact h2)
theorem zU{b:Nat}(h:∃ a,a< b/\t.cell a=t.cell b):tq t block reps k b=tq t block reps k (b+1):=by
 refine o9 0 (by simp) fun i hi=>?_
 have hi:i< t.nc:=by simpa using hi
 by_cases h1:∃ a,a< b/\t.cell a=i
 ·rw[JD hi h1,JD hi (by obtain⟨a,ha,h⟩:=h1;exact⟨a,by omega,h⟩)]
 ·rw[QB hi h1,QB hi]
  rintro ⟨a,ha,h2⟩
  rcases Nat.lt_or_ge a b with h3|h3
  ·exact h1 ⟨a,h3,h2⟩
  ·obtain⟨a',ha',e⟩:=h
   exact h1 ⟨a',ha',by rw[e, <-h2,show a=b by omega]⟩
structure Cw(t:iG)(block reps:Nat->Nat)(k:Nat)(cw:List UInt64)(n b:Nat):Prop where
 len:cw.length=n*4
 bit:∀ j x,j< n->x< 256->(bv cw j x=true↔x< b/\mG t block reps k (t.cell x)=j)
theorem Cw.zero:Cw t block reps k [] 0 0:=⟨rfl,fun j x h=>absurd h (Nat.not_lt_zero j)⟩
theorem Cw.more{cw:List UInt64}{n b:Nat}(h:Cw t block reps k cw n b)(hb:b<=256)(hn:n=(mq t block reps k b).length):Cw t block reps k (cw++List.replicate 4 0) (n+1) b:=by
 refine⟨by rw[List.length_append,h.len];simp;omega,fun j x hj hx=>?_⟩
 have hl:=h.len
 rcases Nat.lt_or_ge j n with h1|h1
 ·have:bv (cw++List.replicate 4 0) j x=bv cw j x:=by
   rw[bv,bv,List.getD_eq_getElem?_getD,List.getD_eq_getElem?_getD,List.getElem?_append_left (by omega)]
  rw[this];exact h.bit j x h1 hx
 ·have hjn:j=n:=by omega
  have:bv (cw++List.replicate 4 0) j x=false:=by
   rw[bv,List.getD_eq_getElem?_getD,List.getElem?_append_right (by omega),List.getElem?_replicate]
   split<;>simp
  rw[this]
  constructor
  ·intro h;cases h
  ·rintro ⟨hxb,e⟩
   have hin:jX t block reps k (t.cell x)∈mq t block reps k b:=TY.2 ⟨x,hxb,rfl⟩
   have:=QW hb hin
   have h2:=Py hin
   omega
theorem Cw.put{cw cw':List UInt64}{n b:Nat}(h:Cw t block reps k cw n b)(hlen:cw'.length=cw.length){j:Nat}(hj:j=mG t block reps k (t.cell b))(hb:b< 256)
  (hbit:∀ i x,i< n->x< 256->bv cw' i x=(bv cw i x||(decide (i=j)&&decide (x=b)))):Cw t block reps k cw' n (b+1):=by
 refine⟨by rw[hlen,h.len],fun i x hi hx=>?_⟩;rw[hbit i x hi hx,Bool.or_eq_true,h.bit i x hi hx,Bool.and_eq_true,decide_eq_true_eq,decide_eq_true_eq]
 constructor
 ·rintro (⟨h1,h2⟩|⟨rfl,rfl⟩)
  ·exact⟨by omega,h2⟩
  ·exact⟨by omega,hj.symm⟩
 ·rintro ⟨h1,h2⟩
  by_cases e:x=b
  ·subst e;exact .inr ⟨by omega,rfl⟩
  ·exact .inl ⟨by omega,h2⟩
attribute [local irreducible] dm
theorem zS:mq t block reps k 256=aY (keyBy t block reps k) dm:=by unfold dm;rfl
theorem zO:rf t block reps k 256=(dK (keyBy t block reps k) dm).map t.cell:=by unfold dm;rfl
theorem QX:l9 t block reps k=(mq t block reps k 256).length:=by rw[zS];rfl
theorem y0a{j:Nat}(hcell:∀ b,b< 256->t.cell b< t.nc)(hj:j< l9 t block reps k):(rf t block reps k 256).getD j 0< t.nc/\mG t block reps k ((rf t block reps k 256).getD j 0)=j:=by
 obtain⟨b,hb,e⟩:=Iv (key:=keyBy t block reps k) (l:=dm) hj;obtain⟨r,h1,h2,h3⟩:=Rv (key:=keyBy t block reps k) hb;rw[e]at h1
 have h4:(rf t block reps k 256)[j]? =some (t.cell r):=by
  rw[zO,List.getElem?_map,h1];rfl
 rw[JC h4];refine⟨hcell r (z57.1 h3),?_⟩;rw[QV, <-e];exact(vH h3 hb).2 h2
end
section
variable {f:Nat->Nat->Nat} {nc b0:Nat}
def lL(o:List Nat)(k:Nat):List Int:=(List.range k).map fun x=>if x∈o then((fF o x:Nat):Int)else -1
@[simp] theorem ze6(o:List Nat)(k:Nat):(lL o k).length=k:=by simp[lL]
theorem zll(k:Nat):lL [] k=List.replicate k (-1):=by simp[lL,List.map_const']
theorem Lj{o:List Nat}{k x:Nat}(hx:x< k)(h:x∈o):(lL o k).getD x 0=(fF o x:Nat):=by rw[lL,iy hx,if_pos h]
theorem Rw{o:List Nat}{k x:Nat}(hx:x< k)(h:x∉o):(lL o k).getD x 0= -1:=by rw[lL,iy hx,if_neg h]
theorem Rx{o:List Nat}{k x:Nat}(h:x∉o):(lL o k).set x (o.length:Nat)=lL (o++[x]) k:=by
 refine o9 0 (by simp) fun i hi=>?_
 have hi:i< k:=by simpa using hi
 rw[my (by simpa using hi)]
 by_cases e:x=i
 ·subst e
  rw[if_pos rfl,Lj hi (by simp),Ls h]
 ·rw[if_neg e]
  by_cases h1:i∈o
  ·rw[Lj hi h1,Lj hi (List.mem_append_left _ h1),Lr h1]
  ·rw[Rw hi h1,Rw hi]
   intro h2
   rcases List.mem_append.1 h2 with h2|h2
   ·exact h1 h2
   ·exact e (List.mem_singleton.1 h2).symm
def nk(f:Nat->Nat->Nat)(nc b0 s c:Nat):Nat:=fF (aP f nc b0 (s*nc+c+1)) (tgt f nc b0 (s*nc+c))
def rowP(f:Nat->Nat->Nat)(nc b0 s c:Nat):List Int:=(List.range c).map fun j=>((nk f nc b0 s j:Nat):Int)
def dO(f:Nat->Nat->Nat)(nc b0 s:Nat):List (List Int):=(List.range s).map fun i=>rowP f nc b0 i nc
@[simp] theorem Ro(s c:Nat):(rowP f nc b0 s c).length=c:=by simp[rowP]
@[simp] theorem Fh(s:Nat):(dO f nc b0 s).length=s:=by simp[dO]
theorem y0b(s c:Nat):rowP f nc b0 s c++[((nk f nc b0 s c:Nat):Int)]=rowP f nc b0 s (c+1):=by simp[rowP,List.range_succ]
theorem zlm(s:Nat):dO f nc b0 s++[rowP f nc b0 s nc]=dO f nc b0 (s+1):=by simp[dO,List.range_succ]
def lZ(f:Nat->Nat->Nat)(nc b0 s c:Nat):List Int:=(List.range nc).map fun j=>if j< c then((nk f nc b0 s j:Nat):Int)else 0
@[simp] theorem zsn(s c:Nat):(lZ f nc b0 s c).length=nc:=by simp[lZ]
theorem y0c(s:Nat):lZ f nc b0 s 0=List.replicate nc 0:=by simp[lZ,List.map_const']
theorem AM{s c:Nat}(h:c< nc):(lZ f nc b0 s c).set c ((nk f nc b0 s c:Nat):Int)=lZ f nc b0 s (c+1):=by
 refine o9 0 (by simp) fun i hi=>?_
 have hi:i< nc:=by simpa using hi
 rw[my (by simpa using hi),lZ,lZ,iy hi,iy hi]
 by_cases e:c=i
 ·subst e;rw[if_pos rfl,if_pos (by omega)]
 ·rw[if_neg e]
  by_cases h2:i< c
  ·rw[if_pos h2,if_pos (by omega)]
  ·rw[if_neg h2,if_neg (by omega)]
theorem y0d(s:Nat):lZ f nc b0 s nc=rowP f nc b0 s nc:=by
 refine List.map_congr_left fun i hi=>?_;rw[if_pos (List.mem_range.1 hi)]
theorem zb{n s c:Nat}(h:kW f nc b0 n)(hs:s< n)(hc:c< nc):nk f nc b0 s c=num f nc b0 n s c:=by
 have hp:=NC hs hc
 obtain⟨r,hr⟩:=La (f:=f) (nc:=nc) (b0:=b0) (s*nc+c+1) (n*nc) (by omega)
 have hm:=CY (f:=f) (nc:=nc) (b0:=b0) (p:=s*nc+c) (q:=s*nc+c+1) (by omega)
 rw[nk,num, <-JW h hs hc,hr, <-Lr hm];rfl
theorem QY{i p:Nat}(hi:i< (aP f nc b0 (i*nc)).length)(hp:i*nc<=p):(aP f nc b0 p).getD i 0=(aP f nc b0 (i*nc)).getD i 0:=Lm hp hi
end
attribute [local irreducible] dm
theorem EH{d:Dfa}{t:iG}{block reps rep:Nat->Nat}{k n:Nat}(hcl:∀ b,b< 256->t.cell b< t.nc){cw:List UInt64}(hcw:Cw t block reps k cw (l9 t block reps k) 256)
  (hn:kW (bf t block reps rep) (l9 t block reps k) (block 0) n) (hd:d={ cls:=cw,nc:=l9 t block reps k,next:=dO (bf t block reps rep) (l9 t block reps k) (block 0) n,acc:=(List.range n).map fun s=>t.acc (reps ((aP (bf t block reps rep) (l9 t block reps k) (block 0) (s*l9 t block reps k)).getD s 0)) }):
  Laid d t block reps (mG t block reps k) rep (l9 t block reps k) n:=by
 subst hd
 have hnc256:l9 t block reps k<=256:=by
  have:=vZ (key:=keyBy t block reps k) dm
  rw[zuy]at this;exact this
 refine⟨rfl,hnc256,hcw.len,fun j b hj hb=>?_,by simp,fun s hs=>?_,by simp,fun s hs=>?_⟩
 ·rw[hcw.bit j b hj hb];simp[hb]
 ·have e:(dO (bf t block reps rep) (l9 t block reps k) (block 0) n).getD s []=rowP (bf t block reps rep) (l9 t block reps k) (block 0) s (l9 t block reps k):=by rw[dO,iy hs]
  show((dO _ _ _ _).getD s []).length=_/\_
  rw[e];refine⟨by simp,fun c hc=>?_⟩;rw[rowP,iy hc,zb hn hs hc]
 ·show((List.range n).map _).getD s false=_
  rw[iy hs]
  congr 2
  exact(Lm (Nat.mul_le_mul_right _ (Nat.le_of_lt hs)) (hn.ahead s hs)).symm
end Go.Aut

namespace Go.Aut
section
variable {S:Type} [DecidableEq S] [Inhabited S] {f:S->Nat->S} {nc:Nat} {b0:S}
def dn(f:S->Nat->S)(nc:Nat)(b0:S)(i:Nat):S:=(aR f nc b0 (i*nc)).getD i default
def kN(f:S->Nat->S)(nc:Nat)(b0:S)(s c:Nat):Nat:=jq (aR f nc b0 (s*nc+c+1)) (f (dn f nc b0 s) c)
def dL(f:S->Nat->S)(nc:Nat)(b0:S)(s c:Nat):List Int:=(List.range nc).map fun j=>if j< c then((kN f nc b0 s j:Nat):Int)else 0
def bP(f:S->Nat->S)(nc:Nat)(b0:S)(s:Nat):List (List Int):=(List.range s).map fun i=>dL f nc b0 i nc
def dZ(f:S->Nat->S)(nc:Nat)(b0:S)(acc:S->Bool)(s:Nat):List Bool:=(List.range s).map fun i=>acc (dn f nc b0 i)
@[simp] theorem Lc(s c:Nat):(dL f nc b0 s c).length=nc:=by simp[dL]
@[simp] theorem vY(s:Nat):(bP f nc b0 s).length=s:=by simp[bP]
@[simp] theorem Im(acc:S->Bool)(s:Nat):(dZ f nc b0 acc s).length=s:=by simp[dZ]
theorem zq9(s:Nat):dL f nc b0 s 0=List.replicate nc 0:=by simp[dL,List.map_const']
theorem Y2{s c:Nat}(h:c< nc):(dL f nc b0 s c).set c ((kN f nc b0 s c:Nat):Int)=dL f nc b0 s (c+1):=by
 refine o9 0 (by simp) fun i hi=>?_
 have hi:i< nc:=by simpa using hi
 rw[my (by simpa using hi),dL,dL,iy hi,iy hi]
 by_cases e:c=i
 ·subst e;rw[if_pos rfl,if_pos (by omega)]
 ·rw[if_neg e]
  by_cases h2:i< c
  ·rw[if_pos h2,if_pos (by omega)]
  ·rw[if_neg h2,if_neg (by omega)]
theorem XL(s:Nat):bP f nc b0 s++[dL f nc b0 s nc]=bP f nc b0 (s+1):=by simp[bP,List.range_succ]
theorem S9(acc:S->Bool)(s:Nat):dZ f nc b0 acc s++[acc (dn f nc b0 s)]=dZ f nc b0 acc (s+1):=by simp[dZ,List.range_succ]
theorem uY{i p:Nat}(hi:i< (aR f nc b0 (i*nc)).length)(hp:i*nc<=p):(aR f nc b0 p)[i]? =some (dn f nc b0 i):=by
 rw[Su hp hi,dn,jB hi]
theorem zv5{i k:Nat}(hi:i< (aR f nc b0 (i*nc)).length)(hk:k< nc):aR f nc b0 (i*nc+k+1)=iq (aR f nc b0 (i*nc+k)) (f (dn f nc b0 i) k):=SL hk (uY hi (by omega))
theorem ZC{i k:Nat}(hi:i< (aR f nc b0 (i*nc)).length)(hk:k< nc)(h:f (dn f nc b0 i) k∈aR f nc b0 (i*nc+k)):aR f nc b0 (i*nc+k+1)=aR f nc b0 (i*nc+k)/\kN f nc b0 i k=jq (aR f nc b0 (i*nc+k)) (f (dn f nc b0 i) k):=by
 have e:aR f nc b0 (i*nc+k+1)=aR f nc b0 (i*nc+k):=by rw[zv5 hi hk,iq,if_pos h]
 exact⟨e,by rw[kN,e]⟩
theorem TA{i k:Nat}(hi:i< (aR f nc b0 (i*nc)).length)(hk:k< nc)(h:f (dn f nc b0 i) k∉aR f nc b0 (i*nc+k)):aR f nc b0 (i*nc+k+1)=aR f nc b0 (i*nc+k)++[f (dn f nc b0 i) k]/\kN f nc b0 i k=(aR f nc b0 (i*nc+k)).length:=by
 have e:aR f nc b0 (i*nc+k+1)=aR f nc b0 (i*nc+k)++[f (dn f nc b0 i) k]:=by rw[zv5 hi hk,iq,if_neg h]
 exact⟨e,by rw[kN,e,za h]⟩
theorem TZ{i:Nat}(ha:∀ j,j< i->j< (aR f nc b0 (j*nc)).length)(h:(aR f nc b0 (i*nc)).length<=i):Full f nc b0 i:=by
 refine⟨?_,ha⟩
 rcases Nat.eq_zero_or_pos i with e|e
 ·subst e;have:=Sr (f:=f) (nc:=nc) (b0:=b0) (0*nc);omega
 ·have h2:=ha (i - 1) (by omega)
  have h3:=pR (f:=f) (nc:=nc) (b0:=b0) (p:=(i - 1)*nc) (q:=i*nc) (Nat.mul_le_mul_right _ (by omega))
  omega
def Big(f:S->Nat->S)(nc:Nat)(b0:S)(m:Nat):Prop:=∃ i k,(∀ j,j<=i->j< (aR f nc b0 (j*nc)).length)/\k<=nc/\m< (aR f nc b0 (i*nc+k)).length
theorem Y3{n m:Nat}(h:Full f nc b0 n)(hm:n<=m):¬ Big f nc b0 m:=by
 rintro ⟨i,k,hj,hk,hl⟩
 have hin:i< n:=by
  rcases Nat.lt_or_ge i n with h1|h1
  ·exact h1
  ·have h2:=hj n h1
   rw[h.len]at h2
   omega
 have h3:i*nc+k<=n*nc:=by
  have:(i+1)*nc<=n*nc:=Nat.mul_le_mul_right _ hin
  rw[Nat.add_mul]at this;omega
 have h4:=pR (f:=f) (nc:=nc) (b0:=b0) h3
 rw[h.len]at h4
 omega
theorem zsp{n m:Nat}(h:Full f nc b0 n)(k:Full f nc b0 m):n=m:=by
 rcases Nat.lt_trichotomy n m with e|e|e
 ·have:=k.go n e;rw[h.len]at this;omega
 ·exact e
 ·have:=h.go m e;rw[k.len]at this;omega
def iw(f:S->Nat->S)(acc:S->Bool)(cell:List Int)(nc:Nat)(b0:S)(n:Nat):Tab:={ cell:=cell,nc:=nc,next:=bP f nc b0 n,acc:=dZ f nc b0 acc n }
theorem y0e{n i k:Nat}(h:Full f nc b0 n)(hi:i< n)(hk:k< nc):kN f nc b0 i k=dG f nc b0 n i k:=by
 have h1:=uY (h.go i hi) (show i*nc<=n*nc from Nat.mul_le_mul_right _ (Nat.le_of_lt hi))
 have h2:=yG h hi hk (uY (h.go i hi) (Nat.le_add_right _ _))
 rw[kN,h2,dG,JC h1]
theorem y0f{acc:S->Bool}{cell:List Int}{n i k:Nat}(h:Full f nc b0 n)(hi:i< n)(hk:k< nc):(aD (iw f acc cell nc b0 n)).δ i k=dG f nc b0 n i k:=by
 show(((bP f nc b0 n).getD i []).getD k 0).toNat=_
 rw[bP,iy hi,dL,iy hk,if_pos hk,y0e h hi hk];rfl
theorem y0g{acc:S->Bool}{cell:List Int}{n:Nat}(h:Full f nc b0 n)(hn:0< n)(hcl:cell.length=256)(hc:∀ x∈cell,0<=x/\x< (nc:Nat))(hon:∀ c,c< nc->∃ b,b< 256/\(cell.getD b 0).toNat=c):(iw f acc cell nc b0 n).ok:=by
 refine⟨hcl,hc,by show 0< (bP f nc b0 n).length;simpa using hn,by show(dZ f nc b0 acc n).length=(bP f nc b0 n).length;simp,fun r hr=>?_,hon⟩;obtain⟨i,hi,rfl⟩:=List.mem_map.1 hr
 have hi:=List.mem_range.1 hi
 refine⟨by simp[iw],fun x hx=>?_⟩;obtain⟨k,hk,rfl⟩:=List.mem_map.1 hx
 have hk:=List.mem_range.1 hk
 rw[if_pos hk,y0e h hi hk]
 have:=(xk h hi hk).1
 show 0<=_/\_< (((bP f nc b0 n).length:Nat):Int)
 rw[vY]
 omega
theorem zqa{acc:S->Bool}{cell:List Int}{n:Nat}{g:S->Nat->S}(h:Full f nc b0 n)(hn:0< n)(hc:∀ b,b< 256->(cell.getD b 0).toNat< nc)(hg:∀ s b,b< 256->f s (cell.getD b 0).toNat=g s b){w:List Nat}(hw:Bytes w):
  (aD (iw f acc cell nc b0 n)).lang 0 w=acc (bZ g b0 w):=by
 have key:∀ (w:List Nat) (i:Nat),Bytes w->i< n->(aD (iw f acc cell nc b0 n)).run i w< n/\(aD (iw f acc cell nc b0 n)).run i w=(uw f acc (fun b=>(cell.getD b 0).toNat) nc b0 n).run i w:=by
  intro w
  induction w with
  |nil=>exact fun i _ hi=>⟨hi,rfl⟩
  |cons b w ih=>
   intro i hb hi
   have hk:=hc b (hb b List.mem_cons_self)
   have h1:=(xk h hi hk).1
   have h2:=ih (dG f nc b0 n i (cell.getD b 0).toNat) (fun x hx=>hb x (List.mem_cons_of_mem _ hx)) h1
   show(aD (iw f acc cell nc b0 n)).run ((aD (iw f acc cell nc b0 n)).δ i (cell.getD b 0).toNat) w< n/\(aD (iw f acc cell nc b0 n)).run ((aD (iw f acc cell nc b0 n)).δ i (cell.getD b 0).toNat) w=_
   rw[y0f h hi hk];exact h2
 rw[<-y02 (cell:=fun b=>(cell.getD b 0).toNat) (acc:=acc) h hc hg hw];obtain⟨h1,h2⟩:=key w 0 hw hn
 have h3:(aD (iw f acc cell nc b0 n)).acc ((aD (iw f acc cell nc b0 n)).run 0 w)=acc (dn f nc b0 ((aD (iw f acc cell nc b0 n)).run 0 w)):=by
  show(dZ f nc b0 acc n).getD _ false=_
  rw[dZ,iy h1]
 show(aD (iw f acc cell nc b0 n)).acc ((aD (iw f acc cell nc b0 n)).run 0 w)=acc ((aR f nc b0 (n*nc)).getD ((uw f acc (fun b=>(cell.getD b 0).toNat) nc b0 n).run 0 w) default)
 rw[h3, <-h2,JC (uY (h.go _ h1) (Nat.mul_le_mul_right _ (Nat.le_of_lt h1)))]
end
end Go.Aut

namespace Go.Aut
open Classical in
noncomputable def mh(L:List Nat->Bool):Option (List Nat):=if h:∃ w,Gz L w then some (Classical.choose h)else none
theorem PO{L:List Nat->Bool}{w:List Nat}(h:Gz L w):mh L=some w:=by
 have he:∃ w,Gz L w:=⟨w,h⟩
 rw[mh,dif_pos he,Gz.eq (Classical.choose_spec he) h]
theorem zsq{L:List Nat->Bool}(h:∀ v,Bytes v->L v=false):mh L=none:=by
 rw[mh,dif_neg]
 rintro ⟨w,h1,h2,_⟩
 rw[h w h1]at h2;cases h2
theorem Ra{L M:List Nat->Bool}(e:∀ w,Bytes w->L w=M w):mh L=mh M:=by
 by_cases h:∃ w,Gz L w
 ·obtain⟨w,h1,h2,h3⟩:=h
  rw[PO ⟨h1,h2,h3⟩,PO ⟨h1,by rw[<-e w h1];exact h2,fun v hv hm=>h3 v hv (by rw[e v hv];exact hm)⟩]
 ·rw[mh,dif_neg h,mh,dif_neg]
  rintro ⟨w,h1,h2,h3⟩
  exact h ⟨w,h1,by rw[e w h1];exact h2,fun v hv hm=>h3 v hv (by rw[<-e v hv];exact hm)⟩
theorem Ms(t:iG)(w:List Nat):t.lang 0 w=t.acc (bZ (fun s b=>t.δ s (t.cell b)) 0 w):=by
 have key:∀ (w:List Nat) (s:Nat),t.run s w=bZ (fun s b=>t.δ s (t.cell b)) s w:=by
  intro w
  induction w with
  |nil=>exact fun _=>rfl
  |cons b w ih=>exact fun s=>ih _
 show t.acc (t.run 0 w)=_
 rw[key]
open Classical in
noncomputable def kL(L M:List Nat->Bool)(w:List Nat):Bool:=decide (Jj L M w)
open Classical in
noncomputable def iL(L:List Nat->Bool)(w:List Nat):Bool:=decide (iQ L w)
theorem Y4{L M:List Nat->Bool}{w:List Nat}:kL L M w=true↔Jj L M w:=by simp[kL]
theorem Sa{L:List Nat->Bool}{w:List Nat}:iL L w=true↔iQ L w:=by simp[iL]
theorem Bytes.left{u v:List Nat}(h:Bytes (u++v)):Bytes u:=fun x hx=>h x (List.mem_append_left _ hx)
theorem Bytes.right{u v:List Nat}(h:Bytes (u++v)):Bytes v:=fun x hx=>h x (List.mem_append_right _ hx)
theorem XM{L L' M M':List Nat->Bool}(h1:∀ w,Bytes w->L w=L' w)(h2:∀ w,Bytes w->M w=M' w){w:List Nat}(hw:Bytes w):kL L M w=kL L' M' w:=by
 rw[Bool.eq_iff_iff,Y4,Y4]
 constructor
 ·rintro ⟨u,v,rfl,a,b⟩;exact⟨u,v,rfl,by rw[<-h1 u hw.left];exact a,by rw[<-h2 v hw.right];exact b⟩
 ·rintro ⟨u,v,rfl,a,b⟩;exact⟨u,v,rfl,by rw[h1 u hw.left];exact a,by rw[h2 v hw.right];exact b⟩
theorem Wl{L L':List Nat->Bool}(h1:∀ w,Bytes w->L w=L' w){w:List Nat}(hw:Bytes w):iL L w=iL L' w:=by
 rw[Bool.eq_iff_iff,Sa,Sa]
 have key:∀ {L L':List Nat->Bool} (h1:∀ w,Bytes w->L w=L' w),iQ L w->iQ L' w:=by
  rintro L L' h1 ⟨ws,h,rfl⟩
  refine⟨ws,fun u hu=>?_,rfl⟩;rw[<-h1 u fun x hx=>hw x (List.mem_flatten.2 ⟨u,hu,hx⟩)];exact h u hu
 exact⟨key h1,key fun w hw=>(h1 w hw).symm⟩
end Go.Aut

namespace Go.Aut
def fP(w:List Nat):List Nat->Bool:=fun v=>decide (v=w)
theorem zja{d:Dfa}{L:List Nat->Bool}(ws:List (List Nat))(h0:0< d.next.length/\0< d.nc)
  (h1:∀ b,b< 256->eO d b< d.nc) (h2:∀ s,s< d.next.length->∀ c,c< d.nc->iJ d s c< d.next.length)
  (hL:∀ w,Bytes w->aT d w=L w) (hb:∀ w∈ws,∀ b∈w,b< 256)
  (h3:∀ s,s< d.next.length->∀ t,t< d.next.length->s≠t->∃ w,w∈ws/\(gq d).lang s w≠(gq d).lang t w)
  (h4:∀ c,c< d.nc->∀ e,e< d.nc->c≠e->∃ s,s< d.next.length/\iJ d s c≠iJ d s e)
  (h5:∀ b,b< 256->∀ v,v< eO d b->∃ a,a< b/\eO d a=v) (h6:∀ c,c< d.nc->∃ b,b< 256/\eO d b=c)
  (h7:((List.range d.next.length).all fun s=>(List.range d.nc).all fun c=>(List.range (iJ d s c)).all fun v=>decide (v=0)||(List.range d.next.length).any fun t=>(List.range d.nc).any fun e=>(decide (t< s)||decide (t=s)&&decide (e< c))&&decide (iJ d t e=v))=true)
  (h8:∀ s,s< d.next.length->0< s->∃ t,t< s/\∃ c,c< d.nc/\iJ d t c=s):aj (lV d) L:=by
 refine⟨h0.1,h0.2,h1,fun s c hs hc=>h2 s hs c hc,fun w hw=>by rw[Sv];exact hL w hw,fun s t hs ht hne=>?_,fun c e hc he hne=>h4 c hc e he hne,h5,h6,fun s c hs hc v h0 hv=>?_,fun s h0 hs=>?_⟩
 ·obtain⟨w,hw,h⟩:=h3 s hs t ht hne
  exact⟨w,hb w hw,by rw[Sv,Sv];exact h⟩
 ·have h:=List.all_eq_true.1 (List.all_eq_true.1 (List.all_eq_true.1 h7 s (List.mem_range.2 hs)) c (List.mem_range.2 hc)) v (List.mem_range.2 hv)
  rw[decide_eq_false (show ¬ v=0 by omega),Bool.false_or]at h;obtain⟨t,ht,h⟩:=List.any_eq_true.1 h;obtain⟨e,he,h⟩:=List.any_eq_true.1 h
  simp only[Bool.and_eq_true,Bool.or_eq_true,decide_eq_true_eq]at h
  exact⟨t,e,List.mem_range.1 ht,List.mem_range.1 he,h.1,h.2⟩
 ·obtain⟨t,ht,c,hc,h⟩:=h8 s hs h0
  exact⟨t,c,ht,hc,h⟩
def jy:Dfa:={ cls:=[18446744073709551615,18446744073709551615 ^^^ 8589934592 ^^^ 17179869184,18446744073709551615,18446744073709551615,0,8589934592,0,0,0,17179869184,0,0],nc:=3,next:=[[1,2,1],[1,1,1],[1,1,3],[1,1,1]],acc:=[false,false,false,true] }
def qK:Dfa:={ cls:=[18446744073709551615,18446744073709551615 ^^^ 8589934592,18446744073709551615,18446744073709551615,0,8589934592,0,0],nc:=2,next:=[[1,0],[1,1]],acc:=[true,false] }
theorem TB:∀ b,b< 256->eO jy b=if b=97 then 1 else if b=98 then 2 else 0:=by decide+kernel
theorem zv6:∀ b,b< 256->eO qK b=if b=97 then 1 else 0:=by decide+kernel
theorem xg:jy.ok:=by
 refine⟨rfl,by decide,rfl,by decide,by decide,?_,?_,?_⟩
 ·decide+kernel
 ·decide+kernel
 ·decide
theorem Jw:qK.ok:=by
 refine⟨rfl,by decide,rfl,by decide,by decide,?_,?_,?_⟩
 ·decide+kernel
 ·decide+kernel
 ·decide
theorem Iu(t:iG)(s b:Nat)(w:List Nat):t.lang s (b::w)=t.lang (t.δ s (t.cell b)) w:=rfl
theorem TC:∀ (w:List Nat),Bytes w->(gq jy).lang 1 w=false
 |[],_=>rfl
 | b::w,h=>by
  have hc:=TB b (h b List.mem_cons_self)
  have e:(gq jy).δ 1 ((gq jy).cell b)=1:=by
   show iJ jy 1 (eO jy b)=1
   rw[hc];split
   ·rfl
   ·split<;>rfl
  rw[Iu,e];exact TC w fun x hx=>h x (List.mem_cons_of_mem _ hx)
theorem DZ:∀ (w:List Nat),Bytes w->(gq jy).lang 3 w=decide (w=[])
 |[],_=>rfl
 | b::w,h=>by
  have hc:=TB b (h b List.mem_cons_self)
  have e:(gq jy).δ 3 ((gq jy).cell b)=1:=by
   show iJ jy 3 (eO jy b)=1
   rw[hc];split
   ·rfl
   ·split<;>rfl
  rw[Iu,e,TC w fun x hx=>h x (List.mem_cons_of_mem _ hx)];rfl
theorem D4:∀ (w:List Nat),Bytes w->(gq jy).lang 2 w=decide (w=[98])
 |[],_=>rfl
 | b::w,h=>by
  have hc:=TB b (h b List.mem_cons_self)
  have hw:Bytes w:=fun x hx=>h x (List.mem_cons_of_mem _ hx)
  rw[Iu]
  by_cases e:b=98
  ·subst e
   have:(gq jy).δ 2 ((gq jy).cell 98)=3:=by decide+kernel
   rw[this,DZ w hw];simp
  ·have:(gq jy).δ 2 ((gq jy).cell b)=1:=by
    show iJ jy 2 (eO jy b)=1
    rw[hc];split
    ·rfl
    ·rfl
   rw[this,TC w hw];simp[e]
theorem TD(w:List Nat)(h:Bytes w):aT jy w=fP [97,98] w:=by
 cases w with
 |nil=>rfl
 | cons b w=>
  have hc:=TB b (h b List.mem_cons_self)
  have hw:Bytes w:=fun x hx=>h x (List.mem_cons_of_mem _ hx)
  show(gq jy).lang 0 (b::w)=_
  rw[Iu]
  by_cases e:b=97
  ·subst e
   have:(gq jy).δ 0 ((gq jy).cell 97)=2:=by decide+kernel
   rw[this,D4 w hw];simp[fP]
  ·have:(gq jy).δ 0 ((gq jy).cell b)=1:=by
    show iJ jy 0 (eO jy b)=1
    rw[hc,if_neg e];split<;>rfl
   rw[this,TC w hw];simp[fP,e]
theorem y0h:af (fP [97,98])=jy:=by
 refine P7 xg (zja [[],[97,98],[98]] (by decide) ?_ (by decide) TD (by decide) (by decide+kernel) (by decide) ?_ ?_ (by decide) (by decide))
 ·decide+kernel
 ·decide+kernel
 ·decide+kernel
theorem zv7:∀ (w:List Nat),Bytes w->(gq qK).lang 1 w=false
 |[],_=>rfl
 | b::w,h=>by
  have hc:=zv6 b (h b List.mem_cons_self)
  have e:(gq qK).δ 1 ((gq qK).cell b)=1:=by
   show iJ qK 1 (eO qK b)=1
   rw[hc];split<;>rfl
  rw[Iu,e];exact zv7 w fun x hx=>h x (List.mem_cons_of_mem _ hx)
theorem zqb:∀ (w:List Nat),Bytes w->((gq qK).lang 0 w=true↔∀ b∈w,b=97)
 |[],_=>by simp;rfl
 | b::w,h=>by
  have hc:=zv6 b (h b List.mem_cons_self)
  have hw:Bytes w:=fun x hx=>h x (List.mem_cons_of_mem _ hx)
  rw[Iu]
  by_cases e:b=97
  ·subst e
   have:(gq qK).δ 0 ((gq qK).cell 97)=0:=by decide+kernel
   rw[this,zqb w hw];simp
  ·have:(gq qK).δ 0 ((gq qK).cell b)=1:=by
    show iJ qK 0 (eO qK b)=1
    rw[hc,if_neg e];rfl
   rw[this,zv7 w hw];simp[e]
theorem xh(w:List Nat)(h:Bytes w):aT qK w=iL (fP [97]) w:=by
 rw[Bool.eq_iff_iff,Sa]
 show(gq qK).lang 0 w=true↔_
 rw[zqb w h]
 constructor
 ·intro hw;refine⟨w.map fun b=>[b],fun u hu=>?_,?_⟩
  ·obtain⟨b,hb,rfl⟩:=List.mem_map.1 hu
   simp[fP,hw b hb]
  ·induction w with
   |nil=>rfl
   |cons b w ih=>
    have:=ih (fun x hx=>h x (List.mem_cons_of_mem _ hx)) (fun x hx=>hw x (List.mem_cons_of_mem _ hx))
    simp only[List.map_cons,List.flatten_cons,this];rfl
 ·rintro ⟨ws,h1,rfl⟩ b hb
  obtain⟨u,hu,hbu⟩:=List.mem_flatten.1 hb
  have:=h1 u hu
  simp only[fP,decide_eq_true_eq]at this
  rw[this]at hbu;exact List.mem_singleton.1 hbu
theorem Cz:af (iL (fP [97]))=qK:=by
 refine P7 Jw (zja [[],[97]] (by decide) ?_ (by decide) xh (by decide) (by decide+kernel) (by decide) ?_ ?_ (by decide) (by decide))
 ·decide+kernel
 ·decide+kernel
 ·decide+kernel
end Go.Aut
