/- An automaton as an argument. -/
import Derived.Test.YtppmnaoollkboaaDoorPd
import Derived.Test.YtppmnaoollkboaaDoorPb
namespace Go.Proofs.YtppmnaoollkboaaDoor
set_option linter.all false
open Go.Ab Go.RowKit

open Go.Aut Go.ChangeShapes
section
variable {H:Type} {enc:TypeId×Value→H} {P:Program} {W:World}
theorem fit_ints{t e:TypeId}(ht:P.underlying t=some (.slice e))(hc:P.cellsOf e=1)(he:P.underlying e=some (.int .i64)):Fit enc P W t fun c=>∃ l:List Int,c= .ds l.length (.ints .i64 l)∧l.length≤9223372036854775807:=
  zhc ht hc (fit_int he) (fun _ ⟨n,e,_⟩=>⟨n,e⟩) (fun l=>⟨rfl,fun j h=>by simp[Cont.get,List.getD_eq_getElem?_getD,h]⟩)
theorem fit_rows{t e q:TypeId}(ht:P.underlying t=some (.slice e))(hc:P.cellsOf e=1)(he:P.underlying e=some (.slice q))(hcq:P.cellsOf q=1)(hq:P.underlying q=some (.int .i64)):
    Fit enc P W t fun c=>∃ ps:List (List Int),c= .ds ps.length (.cells (rowsC ps))∧ps.length≤9223372036854775807∧∀ p∈ps,p.length≤9223372036854775807:=fun fuel cs x h=>by
  obtain⟨v,c,rfl,hd,xs,rfl,hl,hx⟩:=znb ht hc (fit_ints he hcq hq) fuel cs x h
  have key:∀ xs:List Cell,(∀ x∈xs,∃ l:List Int,x= .ds l.length (.ints .i64 l)∧l.length≤9223372036854775807)→∃ ps:List (List Int),xs=rowsC ps∧∀ p∈ps,p.length≤9223372036854775807:=by
    intro xs
    induction xs with
    |nil=>exact fun _=>⟨[],rfl,by simp⟩
    | cons x xs ih=>
      intro hx;obtain⟨a,rfl,ha⟩:=hx x (by simp);obtain⟨l,rfl,hl⟩:=ih fun y hy=>hx y (by simp[hy]);exact⟨a::l,rfl,by simpa using ⟨ha,hl⟩⟩
  obtain⟨ps,rfl,hp⟩:=key xs hx;rw[z0y]at hd hl;exact⟨v,_,rfl,hd,ps,rfl,hl,hp⟩
theorem fit_cls {t e b:TypeId} (ht:P.underlying t=some (.slice e)) (hw:P.cellsOf e=4) (he:P.underlying e=some (.array 4 b)) (hb:P.underlying b=some (.int .u64)) (hcb:P.cellsOf b=1):Fit enc P W t fun c=>∃ (n:Nat) (l:List UInt64),c= .ds n (.u64s l)∧l.length=n*4∧n≤9223372036854775807:=fun fuel cs x h=>by
  have h4:FitN enc P W e fun l=>∃ ws:List UInt64,l=ws.map .u64∧ws.length=4:=(zux he hcb (by rw[hw]) (z93 (fit_u64 hb))).mono fun l ⟨ls,e1,e2,e3⟩=>by
    subst e1
    have key:∀ ls:List (List Cell),(∀ x∈ls,∃ c,x=[c]∧∃ b,c= .u64 b)→∃ ws:List UInt64,ls.flatten=ws.map .u64∧ws.length=ls.length:=by
      intro ls
      induction ls with
      |nil=>exact fun _=>⟨[],rfl,rfl⟩
      | cons x ls ih=>
        intro h;obtain⟨_,rfl,b,rfl⟩:=h x List.mem_cons_self;obtain⟨ws,h1,h2⟩:=ih fun y hy=>h y (List.mem_cons_of_mem _ hy);exact⟨b::ws,by rw[List.flatten_cons,h1];rfl,by simp[h2]⟩
    obtain⟨ws,h1,h2⟩:=key ls e3;exact⟨ws,h1,h2.trans e2⟩
  obtain⟨v,c,rfl,hd,ls,rfl,hl,hx⟩:=zuy ht hw (by decide) h4 fuel cs x h
  have key:∀ ls:List (List Cell),(∀ x∈ls,x.length=4∧∃ ws:List UInt64,x=ws.map .u64∧ws.length=4)→∃ l:List UInt64,ls.flatten=l.map .u64∧l.length=ls.length*4:=by
    intro ls
    induction ls with
    |nil=>exact fun _=>⟨[],rfl,rfl⟩
    | cons x ls ih=>
      intro h;obtain⟨_,ws,rfl,h3⟩:=h x List.mem_cons_self;obtain⟨l,h1,h2⟩:=ih fun y hy=>h y (List.mem_cons_of_mem _ hy);exact⟨ws++l,by rw[List.flatten_cons,h1,List.map_append],by rw[List.length_append,h3,h2,List.length_cons];omega⟩
  obtain⟨l,h1,h2⟩:=key ls hx;rw[h1]at hd;refine⟨v,.ds ls.length (.u64s l),rfl,hd.recont (by show l.length=(l.map _).length;rw[List.length_map]) fun j hj=>?_,_,l,rfl,h2,hl⟩
  have hj':j< l.length:=by simpa [Cont.len]using hj
  simp[Cont.get,List.getD_eq_getElem?_getD,hj']
theorem dfa_fit:FitN enc Tryd.prog W 30 fun l=>∃ d:Dfa,l=[.ds d.nc (.u64s d.cls),.ds d.next.length (.cells (rowsC d.next)),.ds d.acc.length (.bools d.acc)]∧d.wf:=
  (zhg Tryd.underlying30 kR (show FitFs enc Tryd.prog W 0 _ [_,_,_] from⟨rfl,z93 (fit_cls Tryd.underlying26 kR Tryd.underlying50 Tryd.underlying48 kR),kR,z93 (fit_rows Tryd.underlying27 kR Tryd.underlying51 kR Tryd.underlying3),kR,z93 (zwl Tryd.underlying28 kR Tryd.underlying4),trivial⟩)).mono fun l ⟨ls,e,h⟩=>by
    obtain⟨l0,ls0,rfl,h0,h⟩:=z87 h;obtain⟨l1,ls1,rfl,h1,h⟩:=z87 h;obtain⟨l2,ls2,rfl,h2,h⟩:=z87 h;obtain rfl:=zs5 h;obtain⟨_,rfl,n,a,rfl,ha,hn⟩:=h0;obtain⟨_,rfl,b,rfl,hb,hb2⟩:=h1;obtain⟨_,rfl,m,rfl,hm⟩:=h2;exact⟨⟨a,n,b,m⟩,e,ha,hn,hb,hm,hb2⟩
end

end Go.Proofs.YtppmnaoollkboaaDoor
