/- The law AtomOrder. -/
import Derived.Test.YtegdcifghaldoaaDoorPk
import Derived.Test.YtegdcifghaldoaaDoorPj
set_option maxHeartbeats 4000000
namespace Go.Proofs.YtegdcifghaldoaaDoor
set_option linter.all false
open Go.Ab Go.RowKit

theorem qCh1{a:Prop}(h:a:=by first|rfl|(cases h1:lessN a b<;>cases h2:lessN b a<;>cases h3:lessN b c<;>cases h4:lessN a c<;>simp_all)):a:=h
open Go.Aut
attribute [local irreducible] lessN
noncomputable def cor:Ctx:={ P:=Tryd.prog,ty:=ty,glob:=gl,fs:=[(10,.flat zp9),(16,.flat lessS),(17,.flat sameMS)] }
theorem z2t:cor.OK:=⟨tyOK,⟨⟨z07 Tryd.func10 kQf rfl,zpa⟩,⟨z07 Tryd.func16 kQf rfl,zo9⟩,⟨z07 Tryd.func17 kQf rfl,sameM_ok⟩,trivial⟩,mixed⟩
@[simp] theorem cor_ty:cor.ty=ty:=rfl

def zpb:QSpec:=fun vs K=>∃ a b c:Mdl,vs=[mdlV a,mdlV b,mdlV c]∧(a.s.length≤9223372036854775807∧a.n.length≤9223372036854775807∧b.s.length≤9223372036854775807∧b.n.length≤9223372036854775807∧c.s.length≤9223372036854775807∧c.n.length≤9223372036854775807)∧K (.c (.bool true))
theorem zhn:z11 Tryd.prog gl 5 zpb:=by
 refine z0v (Γ:=cor) (N:=57) Tryd.func5 rfl rfl fun vs K h=>?_;obtain⟨a,b,c,rfl,⟨hza1,hza2,hzb1,hzb2,hzc1,hzc2⟩,h⟩:=h;refine⟨_,h,rfl,by simp,fun w I=>?_⟩;refine srR z2t fun _ K2=>?_
 iterate 4 refine sXBd_4 ?_
 refine s_n K2 ?_;refine srR z2t fun _ K4=>?_
 iterate 2 refine sXBd_4 ?_
 refine s_n K4 ?_;refine srR z2t fun _ K6=>?_;refine z1f ?_;refine exA (mdlV a) (as_eq rfl) ?_;refine z1f ?_;refine exA (mdlV b) (as_eq rfl) ?_;refine z1f ?_
 try refine aI (z00.noclo (z05 _)) ?_
 try refine aI (z00.noclo (z05 _)) ?_
 refine⟨a,b,rfl,⟨hza1,hza2,hzb1,hzb2⟩,?_⟩;refine DBd_3 ?_
 first|refine exI ?_|(intro cap2 hcap2;refine exI ?_)
 refine sXBd_4 ?_;refine s_n K6 ?_;refine srR z2t fun _ K8=>?_;refine z1f ?_;refine exA (mdlV b) (as_eq rfl) ?_;refine z1f ?_;refine exA (mdlV a) (as_eq rfl) ?_;refine z1f ?_
 try refine aI (z00.noclo (z05 _)) ?_
 try refine aI (z00.noclo (z05 _)) ?_
 refine⟨b,a,rfl,⟨hzb1,hzb2,hza1,hza2⟩,?_⟩;refine DBd_3 ?_
 first|refine exI ?_|(intro cap2 hcap2;refine exI ?_)
 refine sXBd_4 ?_;refine s_n K8 ?_
 have f1:=less_irr a
 have f2:=zp5 a b
 have f3:=less_tot a b
 have f4:= @zl3 a b c
 refine srR z2t fun _ K10=>?_;refine sXBd_4 ?_;refine z1f ?_;refine exB (fun hb1=>?_) (fun hb1=>?_)
 rotate_left 1
 ·exfalso;first|exact absurd hb1 (by decide)|exact hb1 rfl|(simp at hb1;done)|omega
 refine z1v ?_;refine exA (mdlV a) (as_eq rfl) ?_;refine z1v ?_;refine exA (mdlV a) (as_eq rfl) ?_;refine z1v ?_
 try refine aI (z00.noclo (z05 _)) ?_
 try refine aI (z00.noclo (z05 _)) ?_
 refine⟨a,a,rfl,⟨hza1,hza2,hza1,hza2⟩,?_⟩;refine DBd_3 ?_
 first|refine exA (.c (.bool (false))) (as_b (f1)) ?_|(intro cap4 hcap4;refine exA (.c (.bool (false))) (as_b (f1)) ?_)
 refine z22 ?_;refine sXBd_4 ?_;refine z1f ?_;refine exB (fun hb7=>?_) (fun hb7=>?_)
 ·try simp only[dQ,reduceIte]at hb7
  refine z22 ?_;refine z1v ?_;refine exB (fun hb9=>?_) (fun hb9=>?_)
  ·try simp only[dQ,reduceIte]at hb9
   iterate 3 refine z22 ?_
   refine sXBd_4 ?_;refine z1f ?_;refine exB (fun hb14=>?_) (fun hb14=>?_)
   ·try simp only[dQ,reduceIte]at hb14
    refine z22 ?_;refine z1v ?_;refine exB (fun hb16=>?_) (fun hb16=>?_)
    ·try simp only[dQ,reduceIte]at hb16
     refine sN ?_;refine z22 ?_;refine z1v ?_;refine exA (mdlV a) (as_eq rfl) ?_;refine z1v ?_;refine exA (mdlV b) (as_eq rfl) ?_;refine z1v ?_
     try refine aI (z00.noclo (z05 _)) ?_
     try refine aI (z00.noclo (z05 _)) ?_
     refine⟨a,b,rfl,⟨hza1,hza2,hzb1,hzb2⟩,?_⟩;refine DBd_3 ?_
     first|refine exI ?_|(intro cap21 hcap21;refine exI ?_)
     iterate 2 refine z22 ?_
     refine sXBd_4 ?_;refine z1f ?_;refine exB (fun hb25=>?_) (fun hb25=>?_)
     ·try simp only[dQ,reduceIte]at hb25
      iterate 2 refine z22 ?_
      refine z1v ?_;refine exB (fun hb28=>?_) (fun hb28=>?_)
      ·try simp only[dQ,reduceIte]at hb28
       iterate 4 refine sN ?_
       refine z22 ?_;refine z1v ?_;refine exB (fun hb34=>?_) (fun hb34=>?_)
       rotate_left 1
       ·exfalso;simp at hb34
       iterate 3 refine sN ?_
       refine z22 ?_
       iterate 2 refine sXBd_4 ?_
       refine s_n K10 ?_;refine z09 (z02 z2t (fun _ _ h=>h) (by first|rfl|assumption) [.tmp 6] rfl ?_);refine rtD ?_
       show SV.c (.bool _)=SV.c (.bool true)
       exact congrArg (fun v=>SV.c (Cell.bool v)) qCh1
      ·try simp only[dQ,reduceIte]at hb28
       refine z1v ?_;refine exA (mdlV b) (as_eq rfl) ?_;refine z1v ?_;refine exA (mdlV c) (as_eq rfl) ?_;refine z1v ?_
       try refine aI (z00.noclo (z05 _)) ?_
       try refine aI (z00.noclo (z05 _)) ?_
       refine⟨b,c,rfl,⟨hzb1,hzb2,hzc1,hzc2⟩,?_⟩;refine DBd_3 ?_
       first|refine exI ?_|(intro cap31 hcap31;refine exI ?_)
       iterate 2 refine z22 ?_
       refine z1v ?_;refine exB (fun hb34=>?_) (fun hb34=>?_)
       ·try simp only[dQ,reduceIte]at hb34
        iterate 3 refine sN ?_
        refine z22 ?_
        iterate 2 refine sXBd_4 ?_
        refine s_n K10 ?_;refine z09 (z02 z2t (fun _ _ h=>h) (by first|rfl|assumption) [.tmp 6] rfl ?_);refine rtD ?_
        show SV.c (.bool _)=SV.c (.bool true)
        exact congrArg (fun v=>SV.c (Cell.bool v)) qCh1
       ·try simp only[dQ,reduceIte]at hb34
        refine z1v ?_;refine exA (mdlV a) (as_eq rfl) ?_;refine z1v ?_;refine exA (mdlV c) (as_eq rfl) ?_;refine z1v ?_
        try refine aI (z00.noclo (z05 _)) ?_
        try refine aI (z00.noclo (z05 _)) ?_
        refine⟨a,c,rfl,⟨hza1,hza2,hzc1,hzc2⟩,?_⟩;refine DBd_3 ?_
        first|refine exI ?_|(intro cap37 hcap37;refine exI ?_)
        refine z22 ?_
        iterate 2 refine sXBd_4 ?_
        refine s_n K10 ?_;refine z09 (z02 z2t (fun _ _ h=>h) (by first|rfl|assumption) [.tmp 6] rfl ?_);refine rtD ?_
        show SV.c (.bool _)=SV.c (.bool true)
        exact congrArg (fun v=>SV.c (Cell.bool v)) qCh1
     ·try simp only[dQ,reduceIte]at hb25
      iterate 3 refine sN ?_
      iterate 4 refine sU ?_
      iterate 2 refine sN ?_
      iterate 3 refine sU ?_
      refine sN ?_
      iterate 2 refine sXBd_4 ?_
      refine s_n K10 ?_;refine z09 (z02 z2t (fun _ _ h=>h) (by first|rfl|assumption) [.tmp 6] rfl ?_);refine rtD ?_
      show SV.c (.bool _)=SV.c (.bool true)
      exact congrArg (fun v=>SV.c (Cell.bool v)) qCh1
    ·try simp only[dQ,reduceIte]at hb16
     iterate 2 refine z22 ?_
     refine z1v ?_;refine exA (mdlV a) (as_eq rfl) ?_;refine z1v ?_;refine exA (mdlV b) (as_eq rfl) ?_;refine z1v ?_
     try refine aI (z00.noclo (z05 _)) ?_
     try refine aI (z00.noclo (z05 _)) ?_
     refine⟨a,b,rfl,⟨hza1,hza2,hzb1,hzb2⟩,?_⟩;refine DBd_3 ?_
     first|refine exI ?_|(intro cap21 hcap21;refine exI ?_)
     iterate 2 refine z22 ?_
     refine sXBd_4 ?_;refine z1f ?_;refine exB (fun hb25=>?_) (fun hb25=>?_)
     ·try simp only[dQ,reduceIte]at hb25
      iterate 2 refine z22 ?_
      refine z1v ?_;refine exB (fun hb28=>?_) (fun hb28=>?_)
      ·try simp only[dQ,reduceIte]at hb28
       iterate 4 refine sN ?_
       refine z22 ?_;refine z1v ?_;refine exB (fun hb34=>?_) (fun hb34=>?_)
       rotate_left 1
       ·exfalso;simp at hb34
       iterate 3 refine sN ?_
       refine z22 ?_
       iterate 2 refine sXBd_4 ?_
       refine s_n K10 ?_;refine z09 (z02 z2t (fun _ _ h=>h) (by first|rfl|assumption) [.tmp 6] rfl ?_);refine rtD ?_
       show SV.c (.bool _)=SV.c (.bool true)
       exact congrArg (fun v=>SV.c (Cell.bool v)) qCh1
      ·try simp only[dQ,reduceIte]at hb28
       refine z1v ?_;refine exA (mdlV b) (as_eq rfl) ?_;refine z1v ?_;refine exA (mdlV c) (as_eq rfl) ?_;refine z1v ?_
       try refine aI (z00.noclo (z05 _)) ?_
       try refine aI (z00.noclo (z05 _)) ?_
       refine⟨b,c,rfl,⟨hzb1,hzb2,hzc1,hzc2⟩,?_⟩;refine DBd_3 ?_
       first|refine exI ?_|(intro cap31 hcap31;refine exI ?_)
       iterate 2 refine z22 ?_
       refine z1v ?_;refine exB (fun hb34=>?_) (fun hb34=>?_)
       ·try simp only[dQ,reduceIte]at hb34
        iterate 3 refine sN ?_
        refine z22 ?_
        iterate 2 refine sXBd_4 ?_
        refine s_n K10 ?_;refine z09 (z02 z2t (fun _ _ h=>h) (by first|rfl|assumption) [.tmp 6] rfl ?_);refine rtD ?_
        show SV.c (.bool _)=SV.c (.bool true)
        exact congrArg (fun v=>SV.c (Cell.bool v)) qCh1
       ·try simp only[dQ,reduceIte]at hb34
        refine z1v ?_;refine exA (mdlV a) (as_eq rfl) ?_;refine z1v ?_;refine exA (mdlV c) (as_eq rfl) ?_;refine z1v ?_
        try refine aI (z00.noclo (z05 _)) ?_
        try refine aI (z00.noclo (z05 _)) ?_
        refine⟨a,c,rfl,⟨hza1,hza2,hzc1,hzc2⟩,?_⟩;refine DBd_3 ?_
        first|refine exI ?_|(intro cap37 hcap37;refine exI ?_)
        refine z22 ?_
        iterate 2 refine sXBd_4 ?_
        refine s_n K10 ?_;refine z09 (z02 z2t (fun _ _ h=>h) (by first|rfl|assumption) [.tmp 6] rfl ?_);refine rtD ?_
        show SV.c (.bool _)=SV.c (.bool true)
        exact congrArg (fun v=>SV.c (Cell.bool v)) qCh1
     ·try simp only[dQ,reduceIte]at hb25
      iterate 3 refine sN ?_
      iterate 4 refine sU ?_
      iterate 2 refine sN ?_
      iterate 3 refine sU ?_
      refine sN ?_
      iterate 2 refine sXBd_4 ?_
      refine s_n K10 ?_;refine z09 (z02 z2t (fun _ _ h=>h) (by first|rfl|assumption) [.tmp 6] rfl ?_);refine rtD ?_
      show SV.c (.bool _)=SV.c (.bool true)
      exact congrArg (fun v=>SV.c (Cell.bool v)) qCh1
   ·try simp only[dQ,reduceIte]at hb14
    iterate 2 refine sN ?_
    refine sU ?_
    iterate 6 refine sN ?_
    refine sXBd_4 ?_;refine z1f ?_;refine exB (fun hb25=>?_) (fun hb25=>?_)
    ·exfalso;simp at hb25
    iterate 3 refine sN ?_
    iterate 4 refine sU ?_
    iterate 2 refine sN ?_
    iterate 3 refine sU ?_
    refine sN ?_
    iterate 2 refine sXBd_4 ?_
    refine s_n K10 ?_;refine z09 (z02 z2t (fun _ _ h=>h) (by first|rfl|assumption) [.tmp 6] rfl ?_);refine rtD ?_
    show SV.c (.bool _)=SV.c (.bool true)
    exact congrArg (fun v=>SV.c (Cell.bool v)) qCh1
  ·try simp only[dQ,reduceIte]at hb9
   refine sN ?_
   iterate 2 refine z22 ?_
   refine sXBd_4 ?_;refine z1f ?_;refine exB (fun hb14=>?_) (fun hb14=>?_)
   ·try simp only[dQ,reduceIte]at hb14
    refine z22 ?_;refine z1v ?_;refine exB (fun hb16=>?_) (fun hb16=>?_)
    ·try simp only[dQ,reduceIte]at hb16
     refine sN ?_;refine z22 ?_;refine z1v ?_;refine exA (mdlV a) (as_eq rfl) ?_;refine z1v ?_;refine exA (mdlV b) (as_eq rfl) ?_;refine z1v ?_
     try refine aI (z00.noclo (z05 _)) ?_
     try refine aI (z00.noclo (z05 _)) ?_
     refine⟨a,b,rfl,⟨hza1,hza2,hzb1,hzb2⟩,?_⟩;refine DBd_3 ?_
     first|refine exI ?_|(intro cap21 hcap21;refine exI ?_)
     iterate 2 refine z22 ?_
     refine sXBd_4 ?_;refine z1f ?_;refine exB (fun hb25=>?_) (fun hb25=>?_)
     ·try simp only[dQ,reduceIte]at hb25
      iterate 2 refine z22 ?_
      refine z1v ?_;refine exB (fun hb28=>?_) (fun hb28=>?_)
      ·try simp only[dQ,reduceIte]at hb28
       iterate 4 refine sN ?_
       refine z22 ?_;refine z1v ?_;refine exB (fun hb34=>?_) (fun hb34=>?_)
       rotate_left 1
       ·exfalso;simp at hb34
       iterate 3 refine sN ?_
       refine z22 ?_
       iterate 2 refine sXBd_4 ?_
       refine s_n K10 ?_;refine z09 (z02 z2t (fun _ _ h=>h) (by first|rfl|assumption) [.tmp 6] rfl ?_);refine rtD ?_
       show SV.c (.bool _)=SV.c (.bool true)
       exact congrArg (fun v=>SV.c (Cell.bool v)) qCh1
      ·try simp only[dQ,reduceIte]at hb28
       refine z1v ?_;refine exA (mdlV b) (as_eq rfl) ?_;refine z1v ?_;refine exA (mdlV c) (as_eq rfl) ?_;refine z1v ?_
       try refine aI (z00.noclo (z05 _)) ?_
       try refine aI (z00.noclo (z05 _)) ?_
       refine⟨b,c,rfl,⟨hzb1,hzb2,hzc1,hzc2⟩,?_⟩;refine DBd_3 ?_
       first|refine exI ?_|(intro cap31 hcap31;refine exI ?_)
       iterate 2 refine z22 ?_
       refine z1v ?_;refine exB (fun hb34=>?_) (fun hb34=>?_)
       ·try simp only[dQ,reduceIte]at hb34
        iterate 3 refine sN ?_
        refine z22 ?_
        iterate 2 refine sXBd_4 ?_
        refine s_n K10 ?_;refine z09 (z02 z2t (fun _ _ h=>h) (by first|rfl|assumption) [.tmp 6] rfl ?_);refine rtD ?_
        show SV.c (.bool _)=SV.c (.bool true)
        exact congrArg (fun v=>SV.c (Cell.bool v)) qCh1
       ·try simp only[dQ,reduceIte]at hb34
        refine z1v ?_;refine exA (mdlV a) (as_eq rfl) ?_;refine z1v ?_;refine exA (mdlV c) (as_eq rfl) ?_;refine z1v ?_
        try refine aI (z00.noclo (z05 _)) ?_
        try refine aI (z00.noclo (z05 _)) ?_
        refine⟨a,c,rfl,⟨hza1,hza2,hzc1,hzc2⟩,?_⟩;refine DBd_3 ?_
        first|refine exI ?_|(intro cap37 hcap37;refine exI ?_)
        refine z22 ?_
        iterate 2 refine sXBd_4 ?_
        refine s_n K10 ?_;refine z09 (z02 z2t (fun _ _ h=>h) (by first|rfl|assumption) [.tmp 6] rfl ?_);refine rtD ?_
        show SV.c (.bool _)=SV.c (.bool true)
        exact congrArg (fun v=>SV.c (Cell.bool v)) qCh1
     ·try simp only[dQ,reduceIte]at hb25
      iterate 3 refine sN ?_
      iterate 4 refine sU ?_
      iterate 2 refine sN ?_
      iterate 3 refine sU ?_
      refine sN ?_
      iterate 2 refine sXBd_4 ?_
      refine s_n K10 ?_;refine z09 (z02 z2t (fun _ _ h=>h) (by first|rfl|assumption) [.tmp 6] rfl ?_);refine rtD ?_
      show SV.c (.bool _)=SV.c (.bool true)
      exact congrArg (fun v=>SV.c (Cell.bool v)) qCh1
    ·try simp only[dQ,reduceIte]at hb16
     iterate 2 refine z22 ?_
     refine z1v ?_;refine exA (mdlV a) (as_eq rfl) ?_;refine z1v ?_;refine exA (mdlV b) (as_eq rfl) ?_;refine z1v ?_
     try refine aI (z00.noclo (z05 _)) ?_
     try refine aI (z00.noclo (z05 _)) ?_
     refine⟨a,b,rfl,⟨hza1,hza2,hzb1,hzb2⟩,?_⟩;refine DBd_3 ?_
     first|refine exI ?_|(intro cap21 hcap21;refine exI ?_)
     iterate 2 refine z22 ?_
     refine sXBd_4 ?_;refine z1f ?_;refine exB (fun hb25=>?_) (fun hb25=>?_)
     ·try simp only[dQ,reduceIte]at hb25
      iterate 2 refine z22 ?_
      refine z1v ?_;refine exB (fun hb28=>?_) (fun hb28=>?_)
      ·try simp only[dQ,reduceIte]at hb28
       iterate 4 refine sN ?_
       refine z22 ?_;refine z1v ?_;refine exB (fun hb34=>?_) (fun hb34=>?_)
       rotate_left 1
       ·exfalso;simp at hb34
       iterate 3 refine sN ?_
       refine z22 ?_
       iterate 2 refine sXBd_4 ?_
       refine s_n K10 ?_;refine z09 (z02 z2t (fun _ _ h=>h) (by first|rfl|assumption) [.tmp 6] rfl ?_);refine rtD ?_
       show SV.c (.bool _)=SV.c (.bool true)
       exact congrArg (fun v=>SV.c (Cell.bool v)) qCh1
      ·try simp only[dQ,reduceIte]at hb28
       refine z1v ?_;refine exA (mdlV b) (as_eq rfl) ?_;refine z1v ?_;refine exA (mdlV c) (as_eq rfl) ?_;refine z1v ?_
       try refine aI (z00.noclo (z05 _)) ?_
       try refine aI (z00.noclo (z05 _)) ?_
       refine⟨b,c,rfl,⟨hzb1,hzb2,hzc1,hzc2⟩,?_⟩;refine DBd_3 ?_
       first|refine exI ?_|(intro cap31 hcap31;refine exI ?_)
       iterate 2 refine z22 ?_
       refine z1v ?_;refine exB (fun hb34=>?_) (fun hb34=>?_)
       ·try simp only[dQ,reduceIte]at hb34
        iterate 3 refine sN ?_
        refine z22 ?_
        iterate 2 refine sXBd_4 ?_
        refine s_n K10 ?_;refine z09 (z02 z2t (fun _ _ h=>h) (by first|rfl|assumption) [.tmp 6] rfl ?_);refine rtD ?_
        show SV.c (.bool _)=SV.c (.bool true)
        exact congrArg (fun v=>SV.c (Cell.bool v)) qCh1
       ·try simp only[dQ,reduceIte]at hb34
        refine z1v ?_;refine exA (mdlV a) (as_eq rfl) ?_;refine z1v ?_;refine exA (mdlV c) (as_eq rfl) ?_;refine z1v ?_
        try refine aI (z00.noclo (z05 _)) ?_
        try refine aI (z00.noclo (z05 _)) ?_
        refine⟨a,c,rfl,⟨hza1,hza2,hzc1,hzc2⟩,?_⟩;refine DBd_3 ?_
        first|refine exI ?_|(intro cap37 hcap37;refine exI ?_)
        refine z22 ?_
        iterate 2 refine sXBd_4 ?_
        refine s_n K10 ?_;refine z09 (z02 z2t (fun _ _ h=>h) (by first|rfl|assumption) [.tmp 6] rfl ?_);refine rtD ?_
        show SV.c (.bool _)=SV.c (.bool true)
        exact congrArg (fun v=>SV.c (Cell.bool v)) qCh1
     ·try simp only[dQ,reduceIte]at hb25
      iterate 3 refine sN ?_
      iterate 4 refine sU ?_
      iterate 2 refine sN ?_
      iterate 3 refine sU ?_
      refine sN ?_
      iterate 2 refine sXBd_4 ?_
      refine s_n K10 ?_;refine z09 (z02 z2t (fun _ _ h=>h) (by first|rfl|assumption) [.tmp 6] rfl ?_);refine rtD ?_
      show SV.c (.bool _)=SV.c (.bool true)
      exact congrArg (fun v=>SV.c (Cell.bool v)) qCh1
   ·try simp only[dQ,reduceIte]at hb14
    iterate 2 refine sN ?_
    refine sU ?_
    iterate 6 refine sN ?_
    refine sXBd_4 ?_;refine z1f ?_;refine exB (fun hb25=>?_) (fun hb25=>?_)
    ·exfalso;simp at hb25
    iterate 3 refine sN ?_
    iterate 4 refine sU ?_
    iterate 2 refine sN ?_
    iterate 3 refine sU ?_
    refine sN ?_
    iterate 2 refine sXBd_4 ?_
    refine s_n K10 ?_;refine z09 (z02 z2t (fun _ _ h=>h) (by first|rfl|assumption) [.tmp 6] rfl ?_);refine rtD ?_
    show SV.c (.bool _)=SV.c (.bool true)
    exact congrArg (fun v=>SV.c (Cell.bool v)) qCh1
 ·try simp only[dQ,reduceIte]at hb7
  iterate 2 refine sN ?_
  refine sU ?_
  iterate 2 refine sN ?_
  refine sXBd_4 ?_;refine z1f ?_;refine exB (fun hb14=>?_) (fun hb14=>?_)
  ·exfalso;simp at hb14
  iterate 2 refine sN ?_
  refine sU ?_
  iterate 6 refine sN ?_
  refine sXBd_4 ?_;refine z1f ?_;refine exB (fun hb25=>?_) (fun hb25=>?_)
  ·exfalso;simp at hb25
  iterate 3 refine sN ?_
  iterate 4 refine sU ?_
  iterate 2 refine sN ?_
  iterate 3 refine sU ?_
  refine sN ?_
  iterate 2 refine sXBd_4 ?_
  refine s_n K10 ?_;refine z09 (z02 z2t (fun _ _ h=>h) (by first|rfl|assumption) [.tmp 6] rfl ?_);refine rtD ?_
  show SV.c (.bool _)=SV.c (.bool true)
  exact congrArg (fun v=>SV.c (Cell.bool v)) qCh1


end Go.Proofs.YtegdcifghaldoaaDoor
