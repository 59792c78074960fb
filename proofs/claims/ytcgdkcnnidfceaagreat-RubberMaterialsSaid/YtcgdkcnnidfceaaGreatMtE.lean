/- Lemmas towards the statement: the engine of the walks, the functions' models, laws and walks, part 5. Conditions: as each states. -/
import Derived.Test.YtcgdkcnnidfceaaGreatMtD
set_option linter.all false
set_option maxRecDepth 100000
namespace Go.Eng
noncomputable def pChk (l:List (Rat×Rat×Rat×Rat)):Option Int:=(bnd (α:=Bool)
    (ifb (decide ((l.length:Int)<(1:Int)))
     (some true)
     (some (decide ((12:Int)<(l.length:Int))))) λx6 =>
    ifb x6
    (some (4:Int))
    (bnd (Zg (σ:=Int) (ρ:=Unit ⊕ Int) (λs7 =>
       ifb (decide (s7<(l.length:Int)))
       (bnd (idx l s7) λy8 =>
        bnd (α:=Bool)
        (bnd (ZN y8.1) λy9 =>
         ifb (decide (y9≤(0:Int)))
         (some true)
         (bnd (ZN y8.2.2.2) λy10 =>
          ifb (decide (y10≤(0:Int)))
          (some true)
          (bnd (ZN y8.2.1) λy11 =>
           ifb (decide (y11<(0:Int)))
           (some true)
           (bnd (ZN y8.2.2.1) λy12 =>
            some (decide (y12<(0:Int))))))) λx13 =>
        ifb x13
        (some (.inr (.inr (1:Int))))
        (bnd (chk .i64 (s7+(1:Int))) λy14 =>
         some (.inl y14)))
       (some (.inr (.inl ()))))
      Zi (0:Int)) λx15 =>
     match x15 with
     | .inl r16=>(some (0:Int))
     | .inr r17=>(some r17)))
noncomputable def pResp (r:RBR) (w:Rat):Option (Rat×Rat):=(Zg (σ:=Int×Rat×Rat) (ρ:=Rat×Rat) (λs40 =>
            ifb (decide (s40.1<(r.2.length:Int)))
            (bnd (idx r.2 s40.1) λy41 =>
             bnd (ZQc y41.2 w) λy42 =>
             bnd (Zna y42.1 y41.1) λy43 =>
             bnd (Zla s40.2.1 y43) λy44 =>
             bnd (Zna y42.2 y41.1) λy45 =>
             bnd (Zla s40.2.2 y45) λy46 =>
             bnd (chk .i64 (s40.1+(1:Int))) λy47 =>
             some (.inl (y47,y44,y46)))
            (some (.inr (s40.2.1,s40.2.2))))
           Zi ((0:Int),r.1,(0:Rat)))
noncomputable def pMis (r:RBR) (l:List (Rat×Rat×Rat×Rat)):Option Rat:=(Zg (σ:=Int×Rat) (ρ:=Rat) (λs38 =>
         ifb (decide (s38.1<(l.length:Int)))
         (bnd (idx l s38.1) λy39 =>
          bnd (pResp r y39.1) λx48 =>
          bnd (Z9 x48.1 y39.2.1) λy49 =>
          bnd (Z9 x48.2 y39.2.2.1) λy50 =>
          bnd (Zg (σ:=Int×Rat) (ρ:=Rat) (λs51 =>
            ifb (decide (s51.1<(2:Int)))
            (bnd (α:=Rat)
             (ifb (decide (s51.1=(0:Int)))
              (some y49)
              (ifb (decide (s51.1=(1:Int)))
               (some y50)
               (none))) λx52 =>
             bnd (Zvf x52) λy53 =>
             bnd (ZZb y53 y39.2.2.2) λy54 =>
             bnd (Zpa y54.1 s51.2) λy55 =>
             bnd (α:=Rat)
             (ifb (decide ((0:Int)<y55))
              (some y54.1)
              (some s51.2)) λx56 =>
             bnd (chk .i64 (s51.1+(1:Int))) λy57 =>
             some (.inl (y57,x56)))
            (some (.inr s51.2)))
           Zi ((0:Int),s38.2)) λx58 =>
          bnd (chk .i64 (s38.1+(1:Int))) λy59 =>
          some (.inl (y59,x58)))
         (some (.inr s38.2)))
        Zi ((0:Int),(0:Rat)))
noncomputable def pFit (l:List (Rat×Rat×Rat×Rat)) (tms:List Rat):Option (FitT×Int):=(bnd (α:=((Rat×(List (Rat×Rat)))×Rat×(List (Rat×Rat)))×Int)
     (bnd (Zg (σ:=(List (List Rat))×(List Rat)×(List Rat)×Int) (ρ:=(List (List Rat))×(List Rat)×(List Rat)) (λs20 =>
        ifb (decide (s20.2.2.2<(l.length:Int)))
        (bnd (idx l s20.2.2.2) λy21 =>
         bnd (Zha (1:Int)) λy22 =>
         bnd (Zg (σ:=(List Rat)×(List Rat)×Int) (ρ:=(List Rat)×(List Rat)) (λs23 =>
           ifb (decide (s23.2.2<(tms.length:Int)))
           (bnd (idx tms s23.2.2) λy24 =>
            bnd (ZQc y24 y21.1) λy25 =>
            bnd (Zz 56 (s23.1++[y25.1])) λ_ =>
            bnd (Zz 56 (s23.2.1++[y25.2])) λ_ =>
            bnd (chk .i64 (s23.2.2+(1:Int))) λy26 =>
            some (.inl (s23.1++[y25.1],s23.2.1++[y25.2],y26)))
           (some (.inr (s23.1,s23.2.1))))
          Zi ([y22],[(0:Rat)],(0:Int))) λx27 =>
         bnd (Zz 24 (s20.1++[x27.1,x27.2])) λ_ =>
         bnd (Zz 56 (s20.2.1++[y21.2.1,y21.2.2.1])) λ_ =>
         bnd (Zz 56 (s20.2.2.1++[y21.2.2.2,y21.2.2.2])) λ_ =>
         bnd (chk .i64 (s20.2.2.2+(1:Int))) λy28 =>
         some (.inl (s20.1++[x27.1,x27.2],s20.2.1++[y21.2.1,y21.2.2.1],s20.2.2.1++[y21.2.2.2,y21.2.2.2],y28)))
        (some (.inr (s20.1,s20.2.1,s20.2.2.1))))
       Zi (([]:List (List Rat)),([]:List Rat),([]:List Rat),(0:Int))) λx29 =>
      bnd (ZYf x29.1 x29.2.1 x29.2.2) λy30 =>
      ifb (y30.2 != (0:Int))
      (some ((((0:Rat),([]:List (Rat×Rat))),(0:Rat),([]:List (Rat×Rat))),y30.2))
      (bnd (idx y30.1.2.1 (0:Int)) λy31 =>
       bnd (Zg (σ:=Int×((Rat×(List (Rat×Rat)))×Rat×(List (Rat×Rat)))) (ρ:=(Rat×(List (Rat×Rat)))×Rat×(List (Rat×Rat))) (λs32 =>
         ifb (decide (s32.1<(tms.length:Int)))
         (bnd (idx tms s32.1) λy33 =>
          bnd (chk .i64 (s32.1+(1:Int))) λy34 =>
          bnd (idx y30.1.2.1 y34) λy35 =>
          bnd (Zz 112 (s32.2.1.2++[(y35,y33)])) λ_ =>
          bnd (chk .i64 (s32.1+(1:Int))) λy36 =>
          some (.inl (y36,(s32.2.1.1,s32.2.1.2++[(y35,y33)]),s32.2.2.1,s32.2.2.2)))
         (some (.inr ((s32.2.1.1,s32.2.1.2),s32.2.2.1,s32.2.2.2))))
        Zi ((0:Int),(y31,([]:List (Rat×Rat))),(0:Rat),([]:List (Rat×Rat)))) λx37 =>
       bnd (pMis x37.1 l) λx60 =>
       bnd (Zg (σ:=Int×((Rat×(List (Rat×Rat)))×Rat×(List (Rat×Rat)))) (ρ:=(Rat×(List (Rat×Rat)))×Rat×(List (Rat×Rat))) (λs61 =>
         ifb (decide (s61.1<(l.length:Int)))
         (bnd (chk .i64 ((2:Int)*s61.1)) λy62 =>
          bnd (idx y30.1.2.2.2 y62) λy63 =>
          bnd (chk .i64 ((2:Int)*s61.1)) λy64 =>
          bnd (idx y30.1.2.2.1 y64) λy65 =>
          bnd (Z9 y63 y65) λy66 =>
          bnd (chk .i64 ((2:Int)*s61.1)) λy67 =>
          bnd (chk .i64 (y67+(1:Int))) λy68 =>
          bnd (idx y30.1.2.2.2 y68) λy69 =>
          bnd (chk .i64 ((2:Int)*s61.1)) λy70 =>
          bnd (chk .i64 (y70+(1:Int))) λy71 =>
          bnd (idx y30.1.2.2.1 y71) λy72 =>
          bnd (Z9 y69 y72) λy73 =>
          bnd (Zz 112 (s61.2.2.2++[(y66,y73)])) λ_ =>
          bnd (chk .i64 (s61.1+(1:Int))) λy74 =>
          some (.inl (y74,(s61.2.1.1,s61.2.1.2),s61.2.2.1,s61.2.2.2++[(y66,y73)])))
         (some (.inr ((s61.2.1.1,s61.2.1.2),s61.2.2.1,s61.2.2.2))))
        Zi ((0:Int),(x37.1.1,x37.1.2),x60,x37.2.2)) λx75 =>
       some (((x75.1.1,x75.1.2),x75.2.1,x75.2.2),(0:Int)))) λx76 =>
     some (((x76.1.1.1,x76.1.1.2),x76.1.2.1,x76.1.2.2),x76.2))
noncomputable def Zpn (l:List (Rat×Rat×Rat×Rat)) (tms:List Rat):Option (FitT×Int):=bnd (α:=Int)
   (pChk l) λx18 =>
   ifb (x18 != (0:Int))
   (some ((((0:Rat),([]:List (Rat×Rat))),(0:Rat),([]:List (Rat×Rat))),x18))
   (bnd (ZUf tms) λy19 =>
    ifb (y19 != (0:Int))
    (some ((((0:Rat),([]:List (Rat×Rat))),(0:Rat),([]:List (Rat×Rat))),y19))
    (pFit l tms))
theorem ZZh {α:Type} (o:Option α):(bnd o λx=>some x)=o:=by cases o <;> rfl
theorem ZUq {σ τ ρ:Type} (e:σ→τ) {b:σ→Option (σ ⊕ ρ)} {b':τ→Option (τ ⊕ ρ)} (h:∀ s,b' (e s)=match b s with | none=>none | some (.inl s')=>some (.inl (e s')) | some (.inr r)=>some (.inr r)):∀ F s,Zg b' F (e s)=Zg b F s
 | 0,s=>by unfold Zg;rfl
 | F+1,s=>by
  unfold Zg
  rw[h]
  cases hb:b s with
  | none=>rfl
  | some x =>
   cases x with
   | inl s'=>exact ZUq e h F s'
   | inr r=>rfl
theorem Zwu (r:RBR) (w:Rat):pResp r w=ZVe r w:=by
 unfold pResp ZVe;rw[ZZh,ZZh];refine ZUq (λs:Rat×Rat×Int=>(s.2.2,s.1,s.2.1)) (λs=>?_) Zi (r.1,0,0);obtain⟨a,b,i⟩:=s;simp only
 cases decide (i<(r.2.length:Int)) with
 | false=>rfl
 | true =>
  simp only[ifb]
  cases idx r.2 i with
  | none=>rfl
  | some y =>
   simp only[bnd]
   cases ZQc y.2 w with
   | none=>rfl
   | some z =>
    simp only[bnd]
    cases Zna z.1 y.1 with
    | none=>rfl
    | some z1 =>
     simp only[bnd]
     cases Zla a z1 with
     | none=>rfl
     | some z2 =>
      simp only[bnd]
      cases Zna z.2 y.1 with
      | none=>rfl
      | some z3 =>
       simp only[bnd]
       cases Zla b z3 with
       | none=>rfl
       | some z4 =>
        simp only[bnd]
        cases chk IntKind.i64 (i+1) <;> rfl
theorem pMis_eq (r:RBR) (l:List P4):pMis r l=Zof r l:=by
 unfold pMis Zof;rw[ZZh];simp only[Zwu]
theorem pFit_eq (l:List P4) (tms:List Rat):pFit l tms=Zsf l tms:=by
 unfold pFit;simp only[pMis_eq];exact ZZh (Zsf l tms)
theorem Z4v {σ R:Type} {body:σ→Option (σ ⊕ R)} {s:σ} (enc:Nat→σ) (hs:enc 0=s) (c:Nat→Int) (g:Int→R) (fin:R) (n:Nat) (hn:n<2^62) (h1:∀ i,i<n→body (enc i)=if c i≠0 then some (.inr (g (c i))) else some (.inl (enc (i+1)))) (he:body (enc n)=some (.inr fin)) :
  Zg body Zi s=some (if cf c 0 n≠0 then g (cf c 0 n) else fin):=by
 rw[← hs];have key:∀ m F i,i+m=n→m<F→Zg body F (enc i)=some (if cf c i m≠0 then g (cf c i m) else fin):=by
  intro m
  induction m with
  | zero =>
   intro F i hi hF;obtain⟨F,rfl⟩:∃ g,F=g+1:=⟨F-1,by omega⟩;obtain rfl:i=n:=by omega
   unfold Zg;rw[he,Za];rfl
  | succ m ih =>
   intro F i hi hF;obtain⟨F,rfl⟩:∃ g,F=g+1:=⟨F-1,by omega⟩;unfold Zg;rw[h1 i (by omega)];unfold cf;by_cases h:c i≠0
   ·rw[iP h,Za,iP h,iP h]
   ·rw[iN h,Za,iN h];exact ih F (i+1) (by omega) (by omega)
 exact key n Zi 0 (by omega) (Zva (by omega))
theorem endR (b:Int):(match (if b≠0 then .inr b else .inl ():Unit ⊕ Int) with | .inl _=>some ((0:Int)) | .inr x=>some x)=some b:=by
 by_cases hb:b≠0
 ·rw[iP hb]
 ·rw[iN hb,Decidable.not_not.1 hb]
theorem pChk_eq (l:List P4):pChk l=ZBj l:=by
 rw[Z1o];unfold pChk Zjf;by_cases h0:l.length<1∨12<l.length
 ·rw[or2,dTq (by omega),Za,Zf,iP h0]
 rw[or2,dFq (by omega),Za,Ze,iN h0];refine Zq (Z4v (λi=>(i:Int)) rfl (cG l) (λc=>.inr c) (.inl ()) l.length (by omega) (λi hi=>?_) ?_) (endR _)
 ·have g:=Zec (l:=l) (d:=((0:Rat),(0:Rat),(0:Rat),(0:Rat))) hi;rw[dTq (by omega),Zf,ZI hi,← g];simp only[sg,Za];rw[np_d,np_d,ZSf,ZSf,or4,Za];by_cases k1:(gR l i).1≤0∨(gR l i).2.2.2≤0∨(gR l i).2.1<0∨(gR l i).2.2.1<0
  ·have hc:cG l i=1:=by unfold cG;rw[iP k1]
   rw[dTq k1,Zf,hc,iP (by decide)]
  ·have hc:cG l i=0:=by unfold cG;rw[iN k1]
   rw[dFq k1,Ze,hc,iN (by decide),Zn (by omega) (by omega),Za];rfl
 ·rw[dFq (by omega),Ze]
theorem Z2s (l:List P4) (tms:List Rat):Zpn l tms=Zfj l tms:=by
 have e:(bnd (Zsf l tms) λy3=>some (y3.1,y3.2))=Zsf l tms:=ZZh _;unfold Zpn Zfj;rw[pChk_eq,e];simp only[pFit_eq]
noncomputable def ZEk (ws:Int×Int×Int×Int) (n:Int) (places:List Int) (off:Int×Int×Int×Int):Option Bool :=
 bnd (α:=Bool)
 (ifb (decide ((4:Int)<(places.length:Int)))
 (some true)
 (some ((places.length:Int)==(0:Int)))) λx1 =>
 ifb x1
 (bnd Z9g λy2 =>
 some y2)
 (bnd (ZFj ws n) λc =>
 bnd (Zha (1:Int)) λy4 =>
 bnd (Zok c.1 places y4) λa =>
 bnd (α:=((Rat×(List (Rat×Rat)))×Rat×(List (Rat×Rat)))×Int)
 (bnd (α:=Int)
 (bnd (α:=Bool)
 (ifb (decide ((a.1.length:Int)<(1:Int)))
 (some true)
 (some (decide ((12:Int)<(a.1.length:Int))))) λx6 =>
 ifb x6
 (some (4:Int))
 (bnd (Zg (σ:=Int) (ρ:=Unit ⊕ Int) (λQ =>
 ifb (decide (Q<(a.1.length:Int)))
 (bnd (idx a.1 Q) λE =>
 bnd (α:=Bool)
 (bnd (ZN E.1) λy9 =>
 ifb (decide (y9≤(0:Int)))
 (some true)
 (bnd (ZN E.2.2.2) λaz =>
 ifb (decide (az≤(0:Int)))
 (some true)
 (bnd (ZN E.2.1) λaA =>
 ifb (decide (aA<(0:Int)))
 (some true)
 (bnd (ZN E.2.2.1) λaB =>
 some (decide (aB<(0:Int))))))) λaC =>
 ifb aC
 (some (.inr (.inr (1:Int))))
 (bnd (chk .i64 (Q+(1:Int))) λaD =>
 some (.inl aD)))
 (some (.inr (.inl ()))))
      Zi (0:Int)) λaE =>
     match aE with
| .inl cM=>(some (0:Int))
| .inr aF=>(some aF))) λX =>
 ifb (X != (0:Int))
 (some ((((0:Rat),([]:List (Rat×Rat))),(0:Rat),([]:List (Rat×Rat))),X))
 (bnd (ZUf c.2) λY =>
 ifb (Y != (0:Int))
 (some ((((0:Rat),([]:List (Rat×Rat))),(0:Rat),([]:List (Rat×Rat))),Y))
 (bnd (α:=((Rat×(List (Rat×Rat)))×Rat×(List (Rat×Rat)))×Int)
 (bnd (Zg (σ:=(List (List Rat))×(List Rat)×(List Rat)×Int) (ρ:=(List (List Rat))×(List Rat)×(List Rat)) (λh =>
 ifb (decide (h.2.2.2<(a.1.length:Int)))
 (bnd (idx a.1 h.2.2.2) λk =>
 bnd (Zha (1:Int)) λaG =>
 bnd (Zg (σ:=(List Rat)×(List Rat)×Int) (ρ:=(List Rat)×(List Rat)) (λl =>
 ifb (decide (l.2.2<(c.2.length:Int)))
 (bnd (idx c.2 l.2.2) λaH =>
 bnd (ZQc aH k.1) λF =>
 bnd (Zz 56 (l.1++[F.1])) λ_ =>
 bnd (Zz 56 (l.2.1++[F.2])) λ_ =>
 bnd (chk .i64 (l.2.2+(1:Int))) λaI =>
 some (.inl (l.1++[F.1],l.2.1++[F.2],aI)))
 (some (.inr (l.1,l.2.1))))
          Zi ([aG],[(0:Rat)],(0:Int))) λG =>
 bnd (Zz 24 (h.1++[G.1,G.2])) λ_ =>
 bnd (Zz 56 (h.2.1++[k.2.1,k.2.2.1])) λ_ =>
 bnd (Zz 56 (h.2.2.1++[k.2.2.2,k.2.2.2])) λ_ =>
 bnd (chk .i64 (h.2.2.2+(1:Int))) λaJ =>
 some (.inl (h.1++[G.1,G.2],h.2.1++[k.2.1,k.2.2.1],h.2.2.1++[k.2.2.2,k.2.2.2],aJ)))
 (some (.inr (h.1,h.2.1,h.2.2.1))))
       Zi (([]:List (List Rat)),([]:List Rat),([]:List Rat),(0:Int))) λR =>
 bnd (ZYf R.1 R.2.1 R.2.2) λq =>
 ifb (q.2 != (0:Int))
 (some ((((0:Rat),([]:List (Rat×Rat))),(0:Rat),([]:List (Rat×Rat))),q.2))
 (bnd (idx q.1.2.1 (0:Int)) λaK =>
 bnd (Zg (σ:=Int×((Rat×(List (Rat×Rat)))×Rat×(List (Rat×Rat)))) (ρ:=(Rat×(List (Rat×Rat)))×Rat×(List (Rat×Rat))) (λf =>
 ifb (decide (f.1<(c.2.length:Int)))
 (bnd (idx c.2 f.1) λZ =>
 bnd (chk .i64 (f.1+(1:Int))) λaL =>
 bnd (idx q.1.2.1 aL) λaa =>
 bnd (Zz 112 (f.2.1.2++[(aa,Z)])) λ_ =>
 bnd (chk .i64 (f.1+(1:Int))) λaM =>
 some (.inl (aM,(f.2.1.1,f.2.1.2++[(aa,Z)]),f.2.2.1,f.2.2.2)))
 (some (.inr ((f.2.1.1,f.2.1.2),f.2.2.1,f.2.2.2))))
        Zi ((0:Int),(aK,([]:List (Rat×Rat))),(0:Rat),([]:List (Rat×Rat)))) λx =>
 bnd (Zg (σ:=Int×Rat) (ρ:=Rat) (λz =>
 ifb (decide (z.1<(a.1.length:Int)))
 (bnd (idx a.1 z.1) λH =>
 bnd (Zg (σ:=Int×Rat×Rat) (ρ:=Rat×Rat) (λt =>
 ifb (decide (t.1<(x.1.2.length:Int)))
 (bnd (idx x.1.2 t.1) λS =>
 bnd (ZQc S.2 H.1) λab =>
 bnd (Zna ab.1 S.1) λaN =>
 bnd (Zla t.2.1 aN) λaO =>
 bnd (Zna ab.2 S.1) λaP =>
 bnd (Zla t.2.2 aP) λaQ =>
 bnd (chk .i64 (t.1+(1:Int))) λaR =>
 some (.inl (aR,aO,aQ)))
 (some (.inr (t.2.1,t.2.2))))
           Zi ((0:Int),x.1.1,(0:Rat))) λac =>
 bnd (Z9 ac.1 H.2.1) λaS =>
 bnd (Z9 ac.2 H.2.2.1) λaT =>
 bnd (Zg (σ:=Int×Rat) (ρ:=Rat) (λu =>
 ifb (decide (u.1<(2:Int)))
 (bnd (α:=Rat)
 (ifb (decide (u.1=(0:Int)))
 (some aS)
 (ifb (decide (u.1=(1:Int)))
 (some aT)
               (none))) λaU =>
 bnd (Zvf aU) λaV =>
 bnd (ZZb aV H.2.2.2) λad =>
 bnd (Zpa ad.1 u.2) λaW =>
 bnd (α:=Rat)
 (ifb (decide ((0:Int)<aW))
 (some ad.1)
 (some u.2)) λaX =>
 bnd (chk .i64 (u.1+(1:Int))) λaY =>
 some (.inl (aY,aX)))
 (some (.inr u.2)))
           Zi ((0:Int),z.2)) λaZ =>
 bnd (chk .i64 (z.1+(1:Int))) λa0 =>
 some (.inl (a0,aZ)))
 (some (.inr z.2)))
        Zi ((0:Int),(0:Rat))) λa1 =>
 bnd (Zg (σ:=Int×((Rat×(List (Rat×Rat)))×Rat×(List (Rat×Rat)))) (ρ:=(Rat×(List (Rat×Rat)))×Rat×(List (Rat×Rat))) (λd =>
 ifb (decide (d.1<(a.1.length:Int)))
 (bnd (chk .i64 ((2:Int)*d.1)) λa2 =>
 bnd (idx q.1.2.2.2 a2) λa3 =>
 bnd (chk .i64 ((2:Int)*d.1)) λa4 =>
 bnd (idx q.1.2.2.1 a4) λa5 =>
 bnd (Z9 a3 a5) λae =>
 bnd (chk .i64 ((2:Int)*d.1)) λa6 =>
 bnd (chk .i64 (a6+(1:Int))) λa7 =>
 bnd (idx q.1.2.2.2 a7) λa8 =>
 bnd (chk .i64 ((2:Int)*d.1)) λa9 =>
 bnd (chk .i64 (a9+(1:Int))) λba =>
 bnd (idx q.1.2.2.1 ba) λbb =>
 bnd (Z9 a8 bb) λaf =>
 bnd (Zz 112 (d.2.2.2++[(ae,af)])) λ_ =>
 bnd (chk .i64 (d.1+(1:Int))) λbc =>
 some (.inl (bc,(d.2.1.1,d.2.1.2),d.2.2.1,d.2.2.2++[(ae,af)])))
 (some (.inr ((d.2.1.1,d.2.1.2),d.2.2.1,d.2.2.2))))
        Zi ((0:Int),(x.1.1,x.1.2),a1,x.2.2)) λI =>
 some (((I.1.1,I.1.2),I.2.1,I.2.2),(0:Int)))) λA =>
 some (((A.1.1.1,A.1.1.2),A.1.2.1,A.1.2.2),A.2)))) λag =>
 bnd (α:=Bool)
 (ifb (!a.2)
 (some true)
 (ifb (ag.2 != (0:Int))
 (some true)
 (bnd (ZPc ag.1.2.1) λbd =>
 some (!bd)))) λbe =>
 ifb be
 (some false)
 (bnd (Zha (0:Int)) λbf =>
 bnd (Zg (σ:=Int×Rat) (ρ:=Rat) (λB =>
 ifb (decide (B.1<(c.1.2.length:Int)))
 (bnd (idx c.1.2 B.1) λbg =>
 bnd (Zla B.2 bg.1) λbh =>
 bnd (chk .i64 (B.1+(1:Int))) λbi =>
 some (.inl (bi,bh)))
 (some (.inr B.2)))
    Zi ((0:Int),bf)) λah =>
 bnd (Zg (σ:=Int) (ρ:=Unit ⊕ Bool) (λJ =>
 ifb (decide (J<(a.1.length:Int)))
 (bnd (idx a.1 J) λj =>
 bnd (α:=Bool)
 (bnd (Zpa j.2.1 c.1.1) λbj =>
 ifb (decide (bj<(0:Int)))
 (some true)
 (bnd (Zla c.1.1 ah) λbk =>
 bnd (Zpa j.2.1 bk) λbm =>
 ifb (decide ((0:Int)<bm))
 (some true)
 (bnd (Zla j.2.2.1 j.2.2.1) λbn =>
 bnd (Zpa bn ah) λbo =>
 some (decide ((0:Int)<bo))))) λbp =>
 ifb bp
 (some (.inr (.inr false)))
 (bnd (Zg (σ:=Int) (ρ:=Unit ⊕ Bool) (λr =>
 ifb (decide (r<J))
 (bnd (α:=Bool)
 (bnd (idx a.1 r) λbq =>
 bnd (Zpa bq.1 j.1) λbr =>
 ifb (decide (br≤(0:Int)))
 (bnd (idx a.1 r) λbs =>
 bnd (Zpa bs.2.1 j.2.1) λbt =>
 ifb (decide ((0:Int)<bt))
 (some true)
 (bnd (idx a.1 r) λbu =>
 bnd (Zpa bu.1 j.1) λbv =>
 ifb (decide ((0:Int)≤bv))
 (bnd (idx a.1 r) λbw =>
 bnd (Zpa bw.2.1 j.2.1) λbx =>
 some (decide (bx<(0:Int))))
 (some false)))
 (bnd (idx a.1 r) λbz =>
 bnd (Zpa bz.1 j.1) λbA =>
 ifb (decide ((0:Int)≤bA))
 (bnd (idx a.1 r) λbB =>
 bnd (Zpa bB.2.1 j.2.1) λbC =>
 some (decide (bC<(0:Int))))
 (some false))) λbD =>
 ifb bD
 (some (.inr (.inr false)))
 (bnd (chk .i64 (r+(1:Int))) λbE =>
 some (.inl bE)))
 (some (.inr (.inl ()))))
        Zi (0:Int)) λbG =>
       match bG with
| .inl cN=>(bnd (chk .i64 (J+(1:Int))) λbH =>
 some (.inl bH))
| .inr bI=>(some (.inr (.inr bI)))))
 (some (.inr (.inl ()))))
    Zi (0:Int)) λbJ =>
   match bJ with
| .inl cO=>(bnd (Zg (σ:=Int×(List (Rat×Rat×Rat×Rat))) (ρ:=List (Rat×Rat×Rat×Rat)) (λb =>
 ifb (decide (b.1<(a.1.length:Int)))
 (bnd (α:=Rat)
 (ifb (decide (b.1=(0:Int)))
 (bnd (Zab (IntKind.i64.wrap off.1,(128:Int))) λbK =>
 some bK)
 (ifb (decide (b.1=(1:Int)))
 (bnd (Zab (IntKind.i64.wrap off.2.1,(128:Int))) λbM =>
 some bM)
 (ifb (decide (b.1=(2:Int)))
 (bnd (Zab (IntKind.i64.wrap off.2.2.1,(128:Int))) λbP =>
 some bP)
 (ifb (decide (b.1=(3:Int)))
 (bnd (Zab (IntKind.i64.wrap off.2.2.2,(128:Int))) λbQ =>
 some bQ)
           (none))))) λai =>
 bnd (idx b.2 b.1) λbR =>
 bnd (Zla bR.2.1 ai) λaj =>
 bnd (ZN aj) λbS =>
 bnd (α:=List (Rat×Rat×Rat×Rat))
 (ifb (decide ((0:Int)≤bS))
 (bnd (idx b.2 b.1) λak =>
 some (b.2.set b.1.toNat (ak.1,aj,ak.2.2)))
 (some b.2)) λK =>
 bnd (idx K b.1) λbT =>
 bnd (Z9 bT.2.2.1 ai) λal =>
 bnd (ZN al) λbU =>
 bnd (α:=List (Rat×Rat×Rat×Rat))
 (ifb (decide ((0:Int)≤bU))
 (bnd (idx K b.1) λT =>
 some (K.set b.1.toNat (T.1,T.2.1,al,T.2.2.2)))
 (some K)) λbV =>
 bnd (chk .i64 (b.1+(1:Int))) λbW =>
 some (.inl (bW,bV)))
 (some (.inr b.2)))
     Zi ((0:Int),a.1)) λm =>
 bnd (α:=((Rat×(List (Rat×Rat)))×Rat×(List (Rat×Rat)))×Int)
 (bnd (α:=Int)
 (bnd (α:=Bool)
 (ifb (decide ((m.length:Int)<(1:Int)))
 (some true)
 (some (decide ((12:Int)<(m.length:Int))))) λbX =>
 ifb bX
 (some (4:Int))
 (bnd (Zg (σ:=Int) (ρ:=Unit ⊕ Int) (λU =>
 ifb (decide (U<(m.length:Int)))
 (bnd (idx m U) λL =>
 bnd (α:=Bool)
 (bnd (ZN L.1) λbY =>
 ifb (decide (bY≤(0:Int)))
 (some true)
 (bnd (ZN L.2.2.2) λbZ =>
 ifb (decide (bZ≤(0:Int)))
 (some true)
 (bnd (ZN L.2.1) λb0 =>
 ifb (decide (b0<(0:Int)))
 (some true)
 (bnd (ZN L.2.2.1) λb1 =>
 some (decide (b1<(0:Int))))))) λb2 =>
 ifb b2
 (some (.inr (.inr (1:Int))))
 (bnd (chk .i64 (U+(1:Int))) λb3 =>
 some (.inl b3)))
 (some (.inr (.inl ()))))
        Zi (0:Int)) λb4 =>
       match b4 with
| .inl cP=>(some (0:Int))
| .inr b5=>(some b5))) λam =>
 ifb (am != (0:Int))
 (some ((((0:Rat),([]:List (Rat×Rat))),(0:Rat),([]:List (Rat×Rat))),am))
 (bnd (ZUf c.2) λan =>
 ifb (an != (0:Int))
 (some ((((0:Rat),([]:List (Rat×Rat))),(0:Rat),([]:List (Rat×Rat))),an))
 (bnd (α:=((Rat×(List (Rat×Rat)))×Rat×(List (Rat×Rat)))×Int)
 (bnd (Zg (σ:=(List (List Rat))×(List Rat)×(List Rat)×Int) (ρ:=(List (List Rat))×(List Rat)×(List Rat)) (λi =>
 ifb (decide (i.2.2.2<(m.length:Int)))
 (bnd (idx m i.2.2.2) λo =>
 bnd (Zha (1:Int)) λb6 =>
 bnd (Zg (σ:=(List Rat)×(List Rat)×Int) (ρ:=(List Rat)×(List Rat)) (λp =>
 ifb (decide (p.2.2<(c.2.length:Int)))
 (bnd (idx c.2 p.2.2) λb7 =>
 bnd (ZQc b7 o.1) λM =>
 bnd (Zz 56 (p.1++[M.1])) λ_ =>
 bnd (Zz 56 (p.2.1++[M.2])) λ_ =>
 bnd (chk .i64 (p.2.2+(1:Int))) λb8 =>
 some (.inl (p.1++[M.1],p.2.1++[M.2],b8)))
 (some (.inr (p.1,p.2.1))))
            Zi ([b6],[(0:Rat)],(0:Int))) λN =>
 bnd (Zz 24 (i.1++[N.1,N.2])) λ_ =>
 bnd (Zz 56 (i.2.1++[o.2.1,o.2.2.1])) λ_ =>
 bnd (Zz 56 (i.2.2.1++[o.2.2.2,o.2.2.2])) λ_ =>
 bnd (chk .i64 (i.2.2.2+(1:Int))) λb9 =>
 some (.inl (i.1++[N.1,N.2],i.2.1++[o.2.1,o.2.2.1],i.2.2.1++[o.2.2.2,o.2.2.2],b9)))
 (some (.inr (i.1,i.2.1,i.2.2.1))))
         Zi (([]:List (List Rat)),([]:List Rat),([]:List Rat),(0:Int))) λV =>
 bnd (ZYf V.1 V.2.1 V.2.2) λs =>
 ifb (s.2 != (0:Int))
 (some ((((0:Rat),([]:List (Rat×Rat))),(0:Rat),([]:List (Rat×Rat))),s.2))
 (bnd (idx s.1.2.1 (0:Int)) λca =>
 bnd (Zg (σ:=Int×((Rat×(List (Rat×Rat)))×Rat×(List (Rat×Rat)))) (ρ:=(Rat×(List (Rat×Rat)))×Rat×(List (Rat×Rat))) (λg =>
 ifb (decide (g.1<(c.2.length:Int)))
 (bnd (idx c.2 g.1) λao =>
 bnd (chk .i64 (g.1+(1:Int))) λcb =>
 bnd (idx s.1.2.1 cb) λap =>
 bnd (Zz 112 (g.2.1.2++[(ap,ao)])) λ_ =>
 bnd (chk .i64 (g.1+(1:Int))) λcc =>
 some (.inl (cc,(g.2.1.1,g.2.1.2++[(ap,ao)]),g.2.2.1,g.2.2.2)))
 (some (.inr ((g.2.1.1,g.2.1.2),g.2.2.1,g.2.2.2))))
          Zi ((0:Int),(ca,([]:List (Rat×Rat))),(0:Rat),([]:List (Rat×Rat)))) λy =>
 bnd (Zg (σ:=Int×Rat) (ρ:=Rat) (λC =>
 ifb (decide (C.1<(m.length:Int)))
 (bnd (idx m C.1) λO =>
 bnd (Zg (σ:=Int×Rat×Rat) (ρ:=Rat×Rat) (λv =>
 ifb (decide (v.1<(y.1.2.length:Int)))
 (bnd (idx y.1.2 v.1) λW =>
 bnd (ZQc W.2 O.1) λaq =>
 bnd (Zna aq.1 W.1) λce =>
 bnd (Zla v.2.1 ce) λcg =>
 bnd (Zna aq.2 W.1) λch =>
 bnd (Zla v.2.2 ch) λci =>
 bnd (chk .i64 (v.1+(1:Int))) λcj =>
 some (.inl (cj,cg,ci)))
 (some (.inr (v.2.1,v.2.2))))
             Zi ((0:Int),y.1.1,(0:Rat))) λar =>
 bnd (Z9 ar.1 O.2.1) λck =>
 bnd (Z9 ar.2 O.2.2.1) λcl =>
 bnd (Zg (σ:=Int×Rat) (ρ:=Rat) (λw =>
 ifb (decide (w.1<(2:Int)))
 (bnd (α:=Rat)
 (ifb (decide (w.1=(0:Int)))
 (some ck)
 (ifb (decide (w.1=(1:Int)))
 (some cl)
                 (none))) λcm =>
 bnd (Zvf cm) λcn =>
 bnd (ZZb cn O.2.2.2) λau =>
 bnd (Zpa au.1 w.2) λco =>
 bnd (α:=Rat)
 (ifb (decide ((0:Int)<co))
 (some au.1)
 (some w.2)) λcp =>
 bnd (chk .i64 (w.1+(1:Int))) λcq =>
 some (.inl (cq,cp)))
 (some (.inr w.2)))
             Zi ((0:Int),C.2)) λcr =>
 bnd (chk .i64 (C.1+(1:Int))) λcs =>
 some (.inl (cs,cr)))
 (some (.inr C.2)))
          Zi ((0:Int),(0:Rat))) λct =>
 bnd (Zg (σ:=Int×((Rat×(List (Rat×Rat)))×Rat×(List (Rat×Rat)))) (ρ:=(Rat×(List (Rat×Rat)))×Rat×(List (Rat×Rat))) (λe =>
 ifb (decide (e.1<(m.length:Int)))
 (bnd (chk .i64 ((2:Int)*e.1)) λcu =>
 bnd (idx s.1.2.2.2 cu) λcv =>
 bnd (chk .i64 ((2:Int)*e.1)) λcw =>
 bnd (idx s.1.2.2.1 cw) λcx =>
 bnd (Z9 cv cx) λav =>
 bnd (chk .i64 ((2:Int)*e.1)) λcy =>
 bnd (chk .i64 (cy+(1:Int))) λcz =>
 bnd (idx s.1.2.2.2 cz) λcA =>
 bnd (chk .i64 ((2:Int)*e.1)) λcC =>
 bnd (chk .i64 (cC+(1:Int))) λcD =>
 bnd (idx s.1.2.2.1 cD) λcE =>
 bnd (Z9 cA cE) λax =>
 bnd (Zz 112 (e.2.2.2++[(av,ax)])) λ_ =>
 bnd (chk .i64 (e.1+(1:Int))) λcF =>
 some (.inl (cF,(e.2.1.1,e.2.1.2),e.2.2.1,e.2.2.2++[(av,ax)])))
 (some (.inr ((e.2.1.1,e.2.1.2),e.2.2.1,e.2.2.2))))
          Zi ((0:Int),(y.1.1,y.1.2),ct,y.2.2)) λP =>
 some (((P.1.1,P.1.2),P.2.1,P.2.2),(0:Int)))) λD =>
 some (((D.1.1.1,D.1.1.2),D.1.2.1,D.1.2.2),D.2)))) λay =>
 bnd (α:=Bool)
 (ifb (ay.2==(0:Int))
 (bnd (Zha (1:Int)) λcH =>
 bnd (Zpa ay.1.2.1 cH) λcI =>
 ifb (decide (cI≤(0:Int)))
 (bnd Z9g λcJ =>
 some cJ)
 (some false))
 (some false)) λcK =>
 some cK)
| .inr cL=>(some cL)))
theorem Zkm {t w:Rat} (ht:0<t) (hw:0≤w):∃ i:Rat,0<i∧(w*t*(w*t)+1)*i=1∧un1 t w=1-i∧un2 t w=w*t*i:=by
 have h1:0≤w*t:=Rat.mul_nonneg hw (Rat.le_of_lt ht);have h2:0≤w*t*(w*t):=Rat.mul_nonneg h1 h1;have h3:(0:Rat)<w*t*(w*t)+1:=by grind
 have h4:=Rat.inv_pos.2 h3;have h5:(w*t*(w*t)+1)*(w*t*(w*t)+1)⁻¹=1:=Rat.mul_inv_cancel _ (ZPm _);refine⟨(w*t*(w*t)+1)⁻¹,h4,h5,?_,?_⟩
 ·unfold un1;rw[Rat.div_def];grind
 ·unfold un2;rw[Rat.div_def]
theorem un_bd {t w:Rat} (ht:0<t) (hw:0≤w):0≤un1 t w∧un1 t w≤1∧un2 t w+un2 t w≤1:=by
 obtain⟨i,i0,i1,e1,e2⟩:=Zkm ht hw;refine⟨(un_nn ht hw).1,by rw[e1];grind,?_⟩;rw[e2];have h:=Rat.mul_nonneg (Z5q (w*t-1)) (Rat.le_of_lt i0);grind
theorem un_mono {t w w':Rat} (ht:0<t) (hw:0≤w) (h:w≤w'):un1 t w≤un1 t w':=by
 obtain⟨i,i0,i1,e1,_⟩:=Zkm ht hw;obtain⟨j,j0,j1,e2,_⟩:=Zkm ht (Rat.le_trans hw h);rw[e1,e2];have hx:w*t≤w'*t:=Rat.mul_le_mul_of_nonneg_right h (Rat.le_of_lt ht);have h1:0≤w*t:=Rat.mul_nonneg hw (Rat.le_of_lt ht);generalize w*t=x at *;generalize w'*t=y at *;have h3:0≤(y-x)*(y+x):=Rat.mul_nonneg (by grind) (by grind);have h4:0≤(y-x)*(y+x)*(i*j):=Rat.mul_nonneg h3 (Rat.mul_nonneg (Rat.le_of_lt i0) (Rat.le_of_lt j0));have h5:(y-x)*(y+x)*(i*j)=i-j:=by
  have a:(y-x)*(y+x)*(i*j)=((y*y+1)*j)*i-((x*x+1)*i)*j:=by grind
  rw[a,i1,j1];grind
 grind
section
variable {r:RBR} {w:Rat}
def swt (r:RBR) (i:Nat):Rat:=sm i λk=>(gP r.2 k).1
theorem rs_bd (h:∀ i,i<r.2.length→0≤(gP r.2 i).1∧0<(gP r.2 i).2) (hw:0≤w):∀ i,i≤r.2.length→r.1≤(rs r w i).1∧(rs r w i).1≤r.1+swt r i∧(rs r w i).2+(rs r w i).2≤swt r i
 | 0,_=>by
  have e1:(rs r w 0)=(r.1,0):=rfl
  have e2:swt r 0=0:=rfl
  rw[e1,e2]
  refine⟨Rat.le_refl,?_,?_⟩
  ·show r.1≤r.1+0;grind
  ·show (0:Rat)+0≤0;grind
 | i+1,hi=>by
  obtain⟨a,b,c⟩:=rs_bd h hw i (by omega)
  obtain⟨d,e⟩:=h i (by omega)
  obtain⟨u1,u2,u3⟩:=un_bd e hw
  have e1:(rs r w (i+1)).1=(rs r w i).1+un1 (gP r.2 i).2 w*(gP r.2 i).1:=rfl
  have e2:(rs r w (i+1)).2=(rs r w i).2+un2 (gP r.2 i).2 w*(gP r.2 i).1:=rfl
  have e3:swt r (i+1)=swt r i+(gP r.2 i).1:=rfl
  rw[e1,e2,e3]
  have m1:=Rat.mul_nonneg u1 d
  have m2:=Rat.mul_nonneg (show 0≤1-un1 (gP r.2 i).2 w by grind) d
  have m3:=Rat.mul_nonneg (show 0≤1-(un2 (gP r.2 i).2 w+un2 (gP r.2 i).2 w) by grind) d
  exact⟨by grind,by grind,by grind⟩
theorem Zws {w':Rat} (h:∀ i,i<r.2.length→0≤(gP r.2 i).1∧0<(gP r.2 i).2) (hw:0≤w) (hl:w≤w'):∀ i,i≤r.2.length→(rs r w i).1≤(rs r w' i).1
 | 0,_=>Rat.le_refl
 | i+1,hi=>by
  have a:=Zws h hw hl i (by omega)
  obtain⟨d,e⟩:=h i (by omega)
  have u:=un_mono e hw hl
  have e1:∀ w,(rs r w (i+1)).1=(rs r w i).1+un1 (gP r.2 i).2 w*(gP r.2 i).1:=λ_=>rfl
  rw[e1,e1]
  have m2:=Rat.mul_nonneg (show 0≤un1 (gP r.2 i).2 w'-un1 (gP r.2 i).2 w by grind) d
  grind
end
theorem mt_num {a b:Nat} (h1:1≤a) (h2:a≤3) (h3:1≤b) (h4:b≤4):aw (8*7700+3) (b+b+(b+b)) (a+1+1) (a+3)≤1000000000∧(a+1+1+1)*(((8*7700+3)*((b+b+(b+b)+1)*(a+1+1+1))+1)+aw (8*7700+3) (b+b+(b+b)) (a+1+1) (a+3)+2)≤137438953472:=by
 rcases (show a=1∨a=2∨a=3 by omega) with rfl | rfl | rfl <;> rcases (show b=1∨b=2∨b=3∨b=4 by omega) with rfl | rfl | rfl | rfl <;> decide
def Z2d (o:Int):Rat:=ZOc (o,128)
theorem ZTj {o:Int} (h:-128≤o∧o≤127):sz 64 (Z2d o)∧-1≤Z2d o∧Z2d o≤1:=by
 refine⟨ZYq ⟨⟨by simp only;omega,by simp only;omega⟩,by simp only;omega,by simp only;omega⟩,?_⟩;have e:Z2d o=(o:Rat) / 128:=by
  unfold Z2d ZOc;rw[iN (show ¬ (128:Int)=0 by omega),Rat.divInt_eq_div];rfl
 have h1:((-128:Int):Rat)≤(o:Rat):=Rat.intCast_le_intCast.2 h.1;have h2:(o:Rat)≤((127:Int):Rat):=Rat.intCast_le_intCast.2 h.2;have i:(128:Rat)*(128:Rat)⁻¹=1:=Rat.mul_inv_cancel _ (by decide);have ip:(0:Rat)<(128:Rat)⁻¹:=Rat.inv_pos.2 (by decide);rw[e,Rat.div_def];generalize (128:Rat)⁻¹=j at *;have m1:=Rat.mul_nonneg (show 0≤(o:Rat)-((-128:Int):Rat) by grind) (Rat.le_of_lt ip);have m2:=Rat.mul_nonneg (show 0≤((127:Int):Rat)-(o:Rat) by grind) (Rat.le_of_lt ip);have c1:((-128:Int):Rat) = -128:=rfl;have c2:((127:Int):Rat)=127:=rfl;rw[c1]at m1;rw[c2]at m2;constructor <;> grind
def ZJa (s d:Rat):Rat:=if 0≤s+d then s+d else s
theorem offS_ok {s d:Rat} (h0:0≤s) (h1:-1≤d) (h2:d≤1):0≤ZJa s d∧-1≤s-ZJa s d∧s-ZJa s d≤1:=by
 unfold ZJa;split <;> exact⟨by grind,by grind,by grind⟩
theorem fit_le {W n:Nat} {l:List P4} {x t:Nat→Rat} {f:FitT} {s:Rat} (hh:∀ i,i<l.length→0<(gR l i).2.2.2) (hx:∀ k,k<n+1→0≤x k) (hf:FitS W l n t f) (h0:0≤s) (he:∀ i,i<l.length→q1F (mkB n x t) (gR l i)≤s∧q2F (mkB n x t) (gR l i)≤s):f.2.1≤s:=by
 obtain⟨r,y,u,v,rfl,r0,hm,hd,_⟩:=hf;exact Rat.le_trans (Zzm (ZMh (mkB n x t) l l.length).1 (Zwo hh hx) hd) (Zqj h0 _ he)
theorem Zlr {x:Rat} (h1:-1≤x) (h2:x≤1):Zwb x / (1:Rat)≤1:=by
 rw[Rat.div_def,show ((1:Rat))⁻¹=1 by decide +kernel,Rat.mul_one];unfold Zwb;split <;> grind
def Z2a (s d:Rat):Rat:=if 0≤s-d then s-d else s
theorem offT_ok {s d:Rat} (h0:0≤s) (h1:-1≤d) (h2:d≤1):0≤Z2a s d∧-1≤s-Z2a s d∧s-Z2a s d≤1:=by
 unfold Z2a;split <;> exact⟨by grind,by grind,by grind⟩
def dd (off:Int×Int×Int×Int) (i:Nat):Rat:=match i with | 0=>Z2d off.1 | 1=>Z2d off.2.1 | 2=>Z2d off.2.2.1 | _=>Z2d off.2.2.2
theorem ZDh {off:Int×Int×Int×Int} (o0:inR .i8 off.1) (o1:inR .i8 off.2.1) (o2:inR .i8 off.2.2.1) (o3:inR .i8 off.2.2.2) (i:Nat):sz 64 (dd off i)∧-1≤dd off i∧dd off i≤1:=by
 unfold dd;split
 ·exact ZTj o0
 ·exact ZTj o1
 ·exact ZTj o2
 ·exact ZTj o3
theorem Zjt {m:Nat} {w S L:Nat→Rat} {off:Int×Int×Int×Int} (hm:m≤4) (o0:inR .i8 off.1) (o1:inR .i8 off.2.1) (o2:inR .i8 off.2.2.1) (o3:inR .i8 off.2.2.2) (zS:∀ i,i<m→sz 7600 (S i)) (zL:∀ i,i<m→sz 7600 (L i)):Zg (σ:=Int×(List (Rat×Rat×Rat×Rat))) (ρ:=List (Rat×Rat×Rat×Rat)) (λs115 =>
      ifb (decide (s115.1<(m:Int)))
      (bnd (α:=Rat)
       (ifb (decide (s115.1=(0:Int)))
        (bnd (Zab (IntKind.i64.wrap off.1,(128:Int))) λy116 =>
         some y116)
        (ifb (decide (s115.1=(1:Int)))
         (bnd (Zab (IntKind.i64.wrap off.2.1,(128:Int))) λy117 =>
          some y117)
         (ifb (decide (s115.1=(2:Int)))
          (bnd (Zab (IntKind.i64.wrap off.2.2.1,(128:Int))) λy118 =>
           some y118)
          (ifb (decide (s115.1=(3:Int)))
           (bnd (Zab (IntKind.i64.wrap off.2.2.2,(128:Int))) λy119 =>
            some y119)
           (none))))) λx120 =>
       bnd (idx s115.2 s115.1) λy121 =>
       bnd (Zla y121.2.1 x120) λy122 =>
       bnd (ZN y122) λy123 =>
       bnd (α:=List (Rat×Rat×Rat×Rat))
       (ifb (decide ((0:Int)≤y123))
        (bnd (idx s115.2 s115.1) λy124 =>
         some (s115.2.set s115.1.toNat (y124.1,y122,y124.2.2)))
        (some s115.2)) λx125 =>
       bnd (idx x125 s115.1) λy126 =>
       bnd (Z9 y126.2.2.1 x120) λy127 =>
       bnd (ZN y127) λy128 =>
       bnd (α:=List (Rat×Rat×Rat×Rat))
       (ifb (decide ((0:Int)≤y128))
        (bnd (idx x125 s115.1) λy129 =>
         some (x125.set s115.1.toNat (y129.1,y129.2.1,y127,y129.2.2.2)))
        (some x125)) λx130 =>
       bnd (chk .i64 (s115.1+(1:Int))) λy131 =>
       some (.inl (y131,x130)))
      (some (.inr s115.2)))
     Zi ((0:Int),vx m λi=>(w i,S i,L i,(1:Rat)))=some (vx m λi=>(w i,ZJa (S i) (dd off i),Z2a (L i) (dd off i),(1:Rat))):=by
  have r0:-128≤off.1∧off.1≤127:=o0;have r1:-128≤off.2.1∧off.2.1≤127:=o1;have r2:-128≤off.2.2.1∧off.2.2.1≤127:=o2;have r3:-128≤off.2.2.2∧off.2.2.2≤127:=o3;have k0:IntKind.i64.wrap off.1=off.1:=Z0b (ZSa.2 (by omega));have k1:IntKind.i64.wrap off.2.1=off.2.1:=Z0b (ZSa.2 (by omega));have k2:IntKind.i64.wrap off.2.2.1=off.2.2.1:=Z0b (ZSa.2 (by omega));have k3:IntKind.i64.wrap off.2.2.2=off.2.2.2:=Z0b (ZSa.2 (by omega));rw[k0,k1,k2,k3];have ch:∀ q:Nat,q<4→(ifb (decide ((q:Int)=(0:Int)))
        (bnd (Zab (off.1,(128:Int))) λy116 =>
         some y116)
        (ifb (decide ((q:Int)=(1:Int)))
         (bnd (Zab (off.2.1,(128:Int))) λy117 =>
          some y117)
         (ifb (decide ((q:Int)=(2:Int)))
          (bnd (Zab (off.2.2.1,(128:Int))) λy118 =>
           some y118)
          (ifb (decide ((q:Int)=(3:Int)))
           (bnd (Zab (off.2.2.2,(128:Int))) λy119 =>
            some y119)
           (none)))))=some (dd off q):=λq hq=>by
    rcases (show q=0∨q=1∨q=2∨q=3 by omega) with rfl | rfl | rfl | rfl <;> rfl
  refine Zga (λq=>((q:Int),vx m λi=>if i<q then (w i,ZJa (S i) (dd off i),Z2a (L i) (dd off i),(1:Rat)) else (w i,S i,L i,(1:Rat)))) m ?_ (by omega) (λq hq=>?_) ?_
  · exact Prod.ext rfl (ZJ λi _=>iN (Nat.not_lt_zero i))
  · obtain⟨zd,_,_⟩:=ZDh o0 o1 o2 o3 q;have ge0:∀ z:Rat,decide ((0:Int)≤z.num.sign)=decide (0≤z):=λz=>decide_eq_decide.2 ⟨λh=>Rat.not_lt.1 λk=>absurd ((Zyb z).2 k) (Int.not_lt.2 h),λh=>Int.not_lt.1 λk=>absurd ((Zyb z).1 k) (Rat.not_lt.2 h)⟩;simp only;rw[dTq (by omega),Zf,ch q (by omega),Za,Zv _ hq,Za,iN (by omega)];simp only;rw[Zwd (zS q hq) zd (by decide) (by decide),Za];unfold ZN;rw[Za,ge0,tN];have st1:(ifb (decide (0≤S q+dd off q)) (bnd (some (w q,S q,L q,(1:Rat))) λy124=>some ((vx m λi=>if i<q then (w i,ZJa (S i) (dd off i),Z2a (L i) (dd off i),(1:Rat)) else (w i,S i,L i,(1:Rat))).set q (y124.1,S q+dd off q,y124.2.2))) (some (vx m λi=>if i<q then (w i,ZJa (S i) (dd off i),Z2a (L i) (dd off i),(1:Rat)) else (w i,S i,L i,(1:Rat)))))=some (vx m λi=>if i=q then (w q,ZJa (S q) (dd off q),L q,(1:Rat)) else if i<q then (w i,ZJa (S i) (dd off i),Z2a (L i) (dd off i),(1:Rat)) else (w i,S i,L i,(1:Rat))):=by
      unfold ZJa;by_cases hc:0≤S q+dd off q
      · rw[dTq hc,Zf,Za,ZRa,iP hc]
      · rw[dFq hc,Ze,iN hc];refine congrArg some (ZJ λi hi=>?_);by_cases e:i=q
        · subst e;rw[iP rfl,iN (by omega)]
        · rw[iN e]
    rw[st1,Za,Zv _ hq,Za,iP rfl];simp only;rw[Zie (zL q hq) zd (by decide) (by decide),Za,Za,ge0];have st2:(ifb (decide (0≤L q-dd off q)) (bnd (some (w q,ZJa (S q) (dd off q),L q,(1:Rat))) λy129=>some ((vx m λi=>if i=q then (w q,ZJa (S q) (dd off q),L q,(1:Rat)) else if i<q then (w i,ZJa (S i) (dd off i),Z2a (L i) (dd off i),(1:Rat)) else (w i,S i,L i,(1:Rat))).set q (y129.1,y129.2.1,L q-dd off q,y129.2.2.2))) (some (vx m λi=>if i=q then (w q,ZJa (S q) (dd off q),L q,(1:Rat)) else if i<q then (w i,ZJa (S i) (dd off i),Z2a (L i) (dd off i),(1:Rat)) else (w i,S i,L i,(1:Rat)))))=some (vx m λi=>if i<q+1 then (w i,ZJa (S i) (dd off i),Z2a (L i) (dd off i),(1:Rat)) else (w i,S i,L i,(1:Rat))):=by
      by_cases hc:0≤L q-dd off q
      · have e1:Z2a (L q) (dd off q)=L q-dd off q:=iP hc;rw[dTq hc,Zf,Za,ZRa];refine congrArg some (ZJ λi hi=>?_);by_cases e:i=q
        · subst e;rw[iP rfl,iP (by omega),e1]
        · rw[iN e,iN e];by_cases h3:i<q
          · rw[iP h3,iP (by omega)]
          · rw[iN h3,iN (by omega)]
      · have e1:Z2a (L q) (dd off q)=L q:=iN hc;rw[dFq hc,Ze];refine congrArg some (ZJ λi hi=>?_);by_cases e:i=q
        · subst e;rw[iP rfl,iP (by omega),e1]
        · rw[iN e];by_cases h3:i<q
          · rw[iP h3,iP (by omega)]
          · rw[iN h3,iN (by omega)]
    rw[st2,Za,Zn (by omega) (by omega),Za];rfl
  · simp only;rw[dFq (by omega),Ze];exact congrArg (λz=>some (Sum.inr z)) (ZJ λi hi=>iP hi)
theorem ZLx {ws:Int×Int×Int×Int} {n:Int} {places:List Int} {off:Int×Int×Int×Int} (hn:inR .u8 n) (h0:inR .u8 ws.1) (h1:inR .u8 ws.2.1) (h2:inR .u8 ws.2.2.1) (h3:inR .u8 ws.2.2.2) (hp1:∀ p,p ∈ places→inR .u8 p) (o0:inR .i8 off.1) (o1:inR .i8 off.2.1) (o2:inR .i8 off.2.2.1) (o3:inR .i8 off.2.2.2):ZEk ws n places off=some true:=by
 have aw:bnd Z9g (λy=>some y)=some true:=by rw[Z7v,Za]
 unfold ZEk;by_cases c1:4<places.length
 ·rw[dTq (show (4:Int)<(places.length:Int) by omega),Zf,Za,Zf,aw]
 rw[dFq (show ¬ (4:Int)<(places.length:Int) by omega),Ze];by_cases c4:places.length=0
 ·rw[show ((places.length:Int)==(0:Int))=true by rw[beq_iff_eq];omega,Za,Zf,aw]
 rw[show ((places.length:Int)==(0:Int))=false by rw[beq_eq_false_iff_ne];omega,Za,Ze];obtain⟨N,x,N1,N2,em,x0,xz⟩:=ZCu (ws:=ws) hn h0 h1 h2 h3;have zm:∀ i,i<(mkB N x tI).2.length→sz 64 (gP (mkB N x tI).2 i).1∧sz 64 (gP (mkB N x tI).2 i).2:=λi hi=>by
  rw[Ztd]at hi;rw[Zcq hi];exact⟨xz _ (by omega),tI_sz i (by omega)⟩
 have hB:Zrf (mkB N x tI)=0:=Zkv (by omega) (λk hk=>x0 k (by omega)) (λi hi=>tI_in i (by omega));have hR:∀ w,sz 64 w→0≤w→Zif (mkB N x tI) w=some ((ZC (mkB N x tI) w).1,(ZC (mkB N x tI) w).2,0):=λw hw h=>ZPx (K:=64) (W:=64) (xz 0 (by omega)) zm hw h hB (by decide);have hzR:∀ w,sz 64 w→sz 7600 (ZC (mkB N x tI) w).1∧sz 7600 (ZC (mkB N x tI) w).2:=λw hw=>by
  have:=Zcl (K:=64) (W:=64) (r:=mkB N x tI) (xz 0 (by omega)) zm hw (by rw[Ztd];omega);exact⟨this.1.mono (by decide),this.2.mono (by decide)⟩
 have hm0:∀ i,i<(mkB N x tI).2.length→0≤(gP (mkB N x tI).2 i).1∧0<(gP (mkB N x tI).2 i).2:=λi hi=>by
  rw[Ztd]at hi;rw[Zcq hi];exact⟨x0 _ (by omega),(tI_in i (by omega)).1⟩
 have hnR:∀ w,0≤w→0≤(ZC (mkB N x tI) w).1∧0≤(ZC (mkB N x tI) w).2:=λw hw=>rs_nn (r:=mkB N x tI) (x0 0 (by omega)) hm0 hw _ (Nat.le_refl _);have hbR:∀ w,0≤w→(mkB N x tI).1≤(ZC (mkB N x tI) w).1∧(ZC (mkB N x tI) w).1≤(mkB N x tI).1+swt (mkB N x tI) N∧(ZC (mkB N x tI) w).2+(ZC (mkB N x tI) w).2≤swt (mkB N x tI) N:=λw hw=>by
  have e:(mkB N x tI).2.length=N:=Ztd _ _;have:=rs_bd hm0 hw N (by rw[e];exact Nat.le_refl _);unfold ZC;rw[e];exact this
 have hmR:∀ w w',0≤w→w≤w'→(ZC (mkB N x tI) w).1≤(ZC (mkB N x tI) w').1:=λw w' hw h=>Zws hm0 hw h _ (Nat.le_refl _);rw[em,Za];simp only;have q1:Zha (1:Int)=some 1:=rfl;have q0:Zha (0:Int)=some 0:=rfl;rw[q1,Za,ZTu (λp hp=>(Z6d.1 (hp1 p hp)).1) (by omega) hR,Za];simp only;have fw1:∀ i,i<places.length→sz 64 (fw 32 (places.getD i 0))∧0<fw 32 (places.getD i 0):=λi hi=>by
  have:=fw_ok (p:=places.getD i 0) (m:=32) (by rw[Zec hi];exact (Z6d.1 (hp1 _ (List.getElem_mem hi))).1) (by omega) (by omega);exact this.2.2.2
 generalize hw1:(λi=>fw 32 (places.getD i 0))=w1;have e1:(λi=>mR (mkB N x tI) (fw 32 (places.getD i 0)))=λi=>mR (mkB N x tI) (w1 i):=by rw[← hw1]
 rw[e1];clear e1;have fw1:∀ i,i<places.length→sz 64 (w1 i)∧0<w1 i:=by rw[← hw1];exact fw1
 clear hp1;generalize places.length=m at *;have pw:∀ i,i<m→0≤w1 i:=λi hi=>Rat.le_of_lt (fw1 i hi).2;have tl:(ZMb.take N).length=N:=Zgl (by omega);have ht:∀ k,k<(ZMb.take N).length→sz 7700 ((ZMb.take N).getD k 0):=λk hk=>by
  rw[tl]at hk;rw[Zul hk];exact (tI_sz k (by omega)).mono (by decide)
 have hT:Zlf (ZMb.take N)=0:=Zsp N N1 N2;have eM:mkB N x tI=mkB N x λk=>(ZMb.take N).getD k 0:=by
  unfold mkB;rw[show (vx N λk=>(x (k+1),tI k))=vx N λk=>(x (k+1),(ZMb.take N).getD k 0) from ZJ λk hk=>by rw[Zul hk]]
 obtain⟨b1,b2⟩:=mt_num (a:=N) (b:=m) N1 N2 (by omega) (by omega);have solve:∀ S L:Nat→Rat,(∀ i,i<m→0≤S i∧0≤L i∧sz 7700 (S i)∧sz 7700 (L i))→GoodR 7700 (vx m λi=>(w1 i,S i,L i,(1:Rat)))∧∃ f:FitT,Zpn (vx m λi=>(w1 i,S i,L i,(1:Rat))) (ZMb.take N)=some (f,0)∧FitS 1000000000 (vx m λi=>(w1 i,S i,L i,(1:Rat))) N (λk=>(ZMb.take N).getD k 0) f:=λS L h=>by
  have hg:GoodR 7700 (vx m λi=>(w1 i,S i,L i,(1:Rat))):=⟨λi hi=>by
    rw[Zj]at hi;rw[gR,Zeh _ _ hi];exact⟨(fw1 i hi).1.mono (by decide),(h i hi).2.2.1,(h i hi).2.2.2,Zed.mono (by decide)⟩,λi hi=>by
    rw[Zj]at hi;rw[gR,Zeh _ _ hi];exact show (0:Rat)<1 by decide⟩
  have hG:Zjf (vx m λi=>(w1 i,S i,L i,(1:Rat)))=0:=ZDo.2 ⟨by rw[Zj];omega,λi hi=>by
    rw[Zj]at hi;rw[gR,Zeh _ _ hi];exact⟨(fw1 i hi).2,show (0:Rat)<1 by decide,(h i hi).1,(h i hi).2.1⟩⟩
  obtain⟨f,f1,f2⟩:=Zav (K:=7700) (W:=1000000000) hg ht hG hT (by rw[Zj,tl];omega) (by rw[Zj,tl];exact b1) (by rw[Zj,tl];exact b2) (by decide);rw[tl]at f2;exact⟨hg,f,by rw[Z2s];exact f1,f2⟩
 have zR:∀ i,i<m→sz 7600 (ZC (mkB N x tI) (w1 i)).1∧sz 7600 (ZC (mkB N x tI) (w1 i)).2:=λi hi=>hzR _ (fw1 i hi).1;obtain⟨g1,f,f1,f2⟩:=solve (λi=>(ZC (mkB N x tI) (w1 i)).1) (λi=>(ZC (mkB N x tI) (w1 i)).2) (λi hi=>⟨(hnR _ (pw i hi)).1,(hnR _ (pw i hi)).2,(zR i hi).1.mono (by decide),(zR i hi).2.mono (by decide)⟩);have f0:f.2.1=0:=fit0 g1.h (λk hk=>x0 k (by omega)) f2 (λi hi=>by
  rw[Zj]at hi;rw[← eM,gR,Zeh _ _ hi];rfl)
 have eL:(vx m λi=>mR (mkB N x tI) (w1 i))=vx m λi=>(w1 i,(ZC (mkB N x tI) (w1 i)).1,(ZC (mkB N x tI) (w1 i)).2,(1:Rat)):=rfl;rw[eL];refine Zq (y:=(f,(0:Int))) f1 ?_;simp only;rw[show (!true)=false from rfl,Ze,show ((0:Int) != (0:Int))=false from rfl,Ze,f0,show ZPc (0:Rat)=some true from rfl,Za,show (!true)=false from rfl,Za,Ze,q0,Za];have r2l:(mkB N x tI).2.length=N:=Ztd _ _;have zW:∀ q,q≤N→sz 300 (swt (mkB N x tI) q):=λq hq=>by
  have:=smz (n:=q) (k:=64) (f:=λk=>(gP (mkB N x tI).2 k).1) λj hj=>(zm j (by rw[r2l];omega)).1;exact this.mono (by omega)
 refine Zq (y:=swt (mkB N x tI) N) (Zga (λq=>((q:Int),swt (mkB N x tI) q)) N rfl (by omega) (λq hq=>?_) ?_) ?_
 ·have g:idx (mkB N x tI).2 (q:Int)=some (gP (mkB N x tI).2 q):=by rw[ZI (by rw[r2l];exact hq),← Zec (d:=((0:Rat),(0:Rat))) (by rw[r2l];exact hq)]
  simp only;rw[r2l,dTq (by omega),Zf,g,Za,Zwd (zW q (by omega)) (zm q (by rw[r2l];exact hq)).1 (by decide) (by decide),Za,Zn (by omega) (by omega),Za];rfl
 ·simp only;rw[r2l,dFq (by omega),Ze]
 have zB0:sz 64 (mkB N x tI).1:=xz 0 (by omega);simp only[Zj];generalize hr:mkB N x tI=r at *;have gi:∀ i,i<m→idx (vx m λi=>(w1 i,(ZC r (w1 i)).1,(ZC r (w1 i)).2,(1:Rat))) (i:Int)=some (w1 i,(ZC r (w1 i)).1,(ZC r (w1 i)).2,(1:Rat)):=λi hi=>Zv _ hi;refine Zq (y:=.inl ()) (Zga (λq=>(q:Int)) m rfl (by omega) (λi hi=>?_) ?_) ?_
 ·obtain⟨d1,d2,d3⟩:=hbR (w1 i) (pw i hi);obtain⟨z1,z2⟩:=zR i hi;rw[dTq (by omega),Zf,gi i hi,Za];simp only;rw[ZZc z1 zB0 (by decide) (by decide),Za,dFq (λh=>by have:=(Zyb _).1 h;grind),Ze,Zwd zB0 (zW N (Nat.le_refl _)) (by decide) (by decide),Za,ZZc z1 (Zbf zB0 (zW N (Nat.le_refl _))) (by decide) (by decide),Za,dFq (λh=>by have:=(ZMc _).1 h;grind),Ze,Zwd z2 z2 (by decide) (by decide),Za,ZZc (Zbf z2 z2) (zW N (Nat.le_refl _)) (by decide) (by decide),Za,dFq (λh=>by have:=(ZMc _).1 h;grind),Za,Ze];refine Zq (y:=.inl ()) (Zga (λq=>(q:Int)) i rfl (by omega) (λk hk=>?_) ?_) ?_
  ·have hkm:k<m:=by omega
   obtain⟨y1,y2⟩:=zR k hkm;have cw:=ZZc (fw1 k hkm).1 (fw1 i hi).1 (show 64≤1099511627776 by decide) (show 64≤1099511627776 by decide);have cs:=ZZc y1 z1 (show 7600≤1099511627776 by decide) (show 7600≤1099511627776 by decide);rw[dTq (by omega),Zf,gi k hkm];simp only[Za];rw[cw,Za,cs];simp only[Za];by_cases hle:w1 k≤w1 i
   ·have hs:=hmR _ _ (pw k hkm) hle;rw[dTq (Int.not_lt.1 λh=>by have:=(ZMc _).1 h;grind),Zf,dFq (λh=>by have:=(ZMc _).1 h;grind),Ze];by_cases hge:w1 i≤w1 k
    ·have hs2:=hmR _ _ (pw i hi) hge;rw[dTq (Int.not_lt.1 λh=>by have:=(Zyb _).1 h;grind),Zf,dFq (λh=>by have:=(Zyb _).1 h;grind),Za,Ze,Zn (by omega) (by omega),Za];rfl
    ·rw[dFq (λh=>hge (by have:=Int.not_lt.2 h;exact Rat.not_lt.1 λk=>this ((Zyb _).2 (by grind)))),Ze,Za,Ze,Zn (by omega) (by omega),Za];rfl
   ·have hge:w1 i≤w1 k:=by grind
    have hs2:=hmR _ _ (pw i hi) hge;rw[dFq (λh=>hle (by have:=Int.not_lt.2 h;exact Rat.not_lt.1 λk=>this ((ZMc _).2 (by grind)))),Ze,dTq (Int.not_lt.1 λh=>by have:=(Zyb _).1 h;grind),Zf,dFq (λh=>by have:=(Zyb _).1 h;grind),Za,Ze,Zn (by omega) (by omega),Za];rfl
  ·rw[dFq (by omega),Ze]
  ·simp only;rw[Zn (by omega) (by omega),Za];rfl
 ·rw[dFq (by omega),Ze]
 simp only;have hS:∀ i,i<m→0≤ZJa (ZC r (w1 i)).1 (dd off i)∧-1≤(ZC r (w1 i)).1-ZJa (ZC r (w1 i)).1 (dd off i)∧(ZC r (w1 i)).1-ZJa (ZC r (w1 i)).1 (dd off i)≤1:=λi hi=>by
  have:=ZDh o0 o1 o2 o3 i;exact offS_ok (hnR _ (pw i hi)).1 this.2.1 this.2.2
 have hL:∀ i,i<m→0≤Z2a (ZC r (w1 i)).2 (dd off i)∧-1≤(ZC r (w1 i)).2-Z2a (ZC r (w1 i)).2 (dd off i)∧(ZC r (w1 i)).2-Z2a (ZC r (w1 i)).2 (dd off i)≤1:=λi hi=>by
  have:=ZDh o0 o1 o2 o3 i;exact offT_ok (hnR _ (pw i hi)).2 this.2.1 this.2.2
 have zS:∀ i,i<m→sz 7700 (ZJa (ZC r (w1 i)).1 (dd off i)):=λi hi=>by
  have h1:=(zR i hi).1;have h2:=(ZDh o0 o1 o2 o3 i).1;unfold ZJa;split
  ·exact (Zbf h1 h2).mono (by decide)
  ·exact h1.mono (by decide)
 have zL:∀ i,i<m→sz 7700 (Z2a (ZC r (w1 i)).2 (dd off i)):=λi hi=>by
  have h1:=(zR i hi).2;have h2:=(ZDh o0 o1 o2 o3 i).1;unfold Z2a;split
  ·exact (Zji h1 h2).mono (by decide)
  ·exact h1.mono (by decide)
 obtain⟨g2,f',f1',f2'⟩:=solve (λi=>ZJa (ZC r (w1 i)).1 (dd off i)) (λi=>Z2a (ZC r (w1 i)).2 (dd off i)) (λi hi=>⟨(hS i hi).1,(hL i hi).1,zS i hi,zL i hi⟩);have zf:sz 1000000000 f'.2.1:=by
  obtain⟨r,y,u,v,e,r0,_,_,z1,_⟩:=f2';rw[e];exact z1
 have fl:f'.2.1≤1:=fit_le g2.h (λk hk=>x0 k (by omega)) f2' (by decide) (λi hi=>by
  rw[Zj]at hi;rw[← eM,gR,Zeh _ _ hi];unfold q1F q2F;simp only;exact⟨Zlr (hS i hi).2.1 (hS i hi).2.2,Zlr (hL i hi).2.1 (hL i hi).2.2⟩)
 refine Zq (Zjt (w:=w1) (S:=λi=>(ZC r (w1 i)).1) (L:=λi=>(ZC r (w1 i)).2) (by omega) o0 o1 o2 o3 (λi hi=>(zR i hi).1) (λi hi=>(zR i hi).2)) ?_;refine Zq (y:=(f',(0:Int))) f1' ?_;simp only;rw[show ((0:Int)==(0:Int))=true from rfl,Zf,Za,ZZc zf Zed (by decide) (by decide),Za,dTq (Int.not_lt.1 λh=>by have:=(ZMc _).1 h;grind),Zf,aw,Za]
theorem ZAv {α:Type} {A:Rep α} {v:Zb} {cs:List Value} {l:List α} (h:(ZF A).rel v cs l) {x:α} (hx:x ∈ l):∃ c,A.rel v c x:=by
 obtain⟨q,cap,rfl,h1,h2,h3⟩:=h;rcases h3 with rfl | ⟨b,off,c,T,fr,e,hb,hr⟩
 ·cases hx
 ·obtain⟨i,hi,rfl⟩:=List.getElem_of_mem hx;exact⟨_,ZTa hr (List.getElem?_eq_getElem hi)⟩
end Go.Eng
namespace Go.Eng
open Go.RowKit Go.WideShapes Go.ChangeShapes
theorem dropN {cs:List Value} (m n:Nat):cs.drop m=(cs.drop m).take n++cs.drop (m+n):=by
 rw[← List.drop_drop,List.take_append_drop]
theorem Zdq {P:Program} {t e:TypeId} {α:Type} {A:Rep α} (ht:P.underlying t=some (.array 4 e)) (hA:Zee P e A) (ce:P.cellsOf e=A.n) (ct:P.cellsOf t=A.n+(A.n+(A.n+A.n))):Zee P t (ZW A (ZW A (ZW A A))):=by
 intro H enc W fuel cs x h;obtain⟨xs,m,_,_,hl,hx,hf⟩:=DataW.trod_array ht h;have h0:=hf 0 (by omega);have h1:=hf 1 (by omega);have h2:=hf 2 (by omega);have h3:=hf 3 (by omega);rw[ce]at h0 h1 h2 h3;rw[List.getElem?_eq_getElem (by omega)]at h0 h1 h2 h3;rw[Nat.zero_mul,List.drop_zero]at h0;rw[Nat.one_mul]at h1;obtain⟨a,ha⟩:=hA _ _ _ _ _ _ h0;obtain⟨b,hb⟩:=hA _ _ _ _ _ _ h1;obtain⟨c,hc⟩:=hA _ _ _ _ _ _ h2;obtain⟨d,hd⟩:=hA _ _ _ _ _ _ h3;rw[List.take_of_length_le (by rw[List.length_drop,hl,ct];omega)]at hd;refine⟨(a,b,c,d),cs.take A.n,cs.drop A.n,(List.take_append_drop _ _).symm,ha,(cs.drop A.n).take A.n,cs.drop (2*A.n),?_,hb,(cs.drop (2*A.n)).take A.n,cs.drop (3*A.n),?_,hc,hd⟩
 ·rw[show 2*A.n=A.n+A.n by omega];exact dropN _ _
 ·rw[show 3*A.n=2*A.n+A.n by omega];exact dropN _ _
end Go.Eng
namespace Go.Eng
open Go.RowKit
section
variable {P:Program} {N:Nat} {G:V→Value→Prop} {w0:Base} {v0:Zb} {U X:Nat→Prop} {f:Fr} {l:Lo} {a:Act} {w:World} {γ:Nat→Gh} {v:Zb} {ℓ:List Loc} {n:Nat}
variable {d:Option Nat} {ty:TypeId} {pos:String} {aft:Array Edge} {g:Option (Nat×Bool)}
theorem Zcp {ty:TypeId} {t:T} (hs:St N w0 v0 [] ℓ v a w):∀ k:Nat,∃ es,Zqa v ty t (List.replicate k (none,0)) (List.replicate k ([]:List t.den)) es∧St N w0 v0 [] (es++ℓ) v a w
 | 0=>⟨[],rfl,hs⟩
 | k+1=>by
  obtain⟨es,h1,h2⟩:=Zcp hs k
  exact⟨.own none ty t.n 0 0 [] :: es,⟨[],es,rfl,rfl,h1⟩,h2.nilLoc ty t.n⟩
theorem ZQr {α:Type}:∀ k:Nat,Zo (List.replicate k ((none:Option Nat),0)) (List.replicate k ([]:List α))=(List.replicate k [Value.slice none 0 0]).flatten
 | 0=>rfl
 | k+1=>by simp only[List.replicate_succ,Zo,List.flatten_cons,ZQr k];rfl
theorem Zmv {C:Cf} (hr:RelX N G w0 v0 U X f l a w γ v ℓ) (hU:∀ k,U k→X k) (hX:X n) (hn:¬ U n) {t:TypeId} {x y:Operand} {o:Oper} {Post:Unit→Fr→Lo→Prop} (ho:o=⟨d,.makeSlice t x y,ty,pos,aft,g⟩) (hd:∀ k,o.dst=some k→k<N)
  (h:Zl n (Z1 C n o) f l Post):Zsa C.P N G w0 v0 X o a w Post:=by
 subst ho;simp only[Z1]at h;obtain⟨V1,h1,_,hA⟩:=ZM hr h;obtain⟨V2,h2,_,hB⟩:=ZM hr hA;obtain⟨κ,i,rfl,hC⟩:=Z5a hB;obtain⟨κ',j,rfl,hD⟩:=Z5a hC;clear h hA hB hC;have h:=hD;obtain⟨e1,_⟩:=ZKa h1;obtain⟨e2,_⟩:=ZKa h2;split at h
 ·rename_i q dd hq;obtain⟨hE,hby⟩:=Zam hq;obtain⟨_,hmk,h⟩:=h;obtain⟨m0,m1,m2,m3⟩:=ZRd hmk;obtain⟨E,hEE,hp⟩:=hr.lr;have hst:=hr.st.perm hp;obtain⟨σ,hσ,ev1,ev2⟩:=hst.ev2 x y;rw[e1]at ev1;rw[e2]at ev2;obtain⟨b,w',hrun,hst'⟩:=Zfm hE hσ m0 m1 m2 m3;have hrun':=hrun (d:=some dd) (ty:=ty) (pos:=pos) (aft:=aft) (g:=g) ev1 ev2;split at h
  ·split at h
   ·rename_i q2 r hq2 hz hs1;have hs1:=eQ hs1;split at h
    ·rename_i s hs;split at h
     ·have hz1:q.z.cells.toList=[.slice none 0 0]:=by
       have h1:=Z2e hz;have h2:=hE.cells;rw[hs1]at h2;have h3:q.z.cells.toList.length=1:=by simpa using h2
       rw[h1]at h3 ⊢;simp at h3;rw[h3]
      obtain⟨es,hR,hst2⟩:=Zcp (ty:=q2.e) (t:=s) hst'.bare i.toNat;have hst3:St N w0 v0 [] (.own (some b) q.e 1 (List.replicate i.toNat ([]:List s.den)).length j.toNat (Zo (List.replicate i.toNat ((none:Option Nat),0)) (List.replicate i.toNat ([]:List s.den))) :: es++E.flatten) v a w':=by
       rw[ZQr,List.length_replicate];rw[hs1,hz1]at hst2;exact hst2.perm List.perm_middle
      have hrun2:=hrun';rw[show (Value.slice (mkA (some b)) i.toNat j.toNat) = .slice (mkA (some b)) (List.replicate i.toNat ([]:List s.den)).length j.toNat by rw[List.length_replicate]]at hrun2;exact Zuk hr hU hX hn hd hEE rfl hR hst3 hrun2 h
     ·exact h.elim
    ·exact h.elim
   ·exact h.elim
  ·split at h
   ·rename_i s hs;split at h
    ·rename_i z r hz hzo hsz;have hsz:=eQ hsz;obtain⟨c1,k1,k2⟩:=ZSp (v:=v) hzo hz;have hl:=Rep.len _ k2;have hc:=hE.cells;have hr0:r=[]:=by
      have:q.z.cells.toList.length=q.sz:=by simpa using hc
      rw[k1,lA,hl,ZU,hsz]at this;exact List.length_eq_zero_iff.1 (by omega)
     rw[hr0,List.append_nil]at k1;have hrel:=ZNg k2 i.toNat;rw[k1]at hst';have hst2:St N w0 v0 [] (.own (some b) q.e s.n (List.replicate i.toNat z).length j.toNat (List.replicate i.toNat c1).flatten :: E.flatten) v a w':=by
      rw[List.length_replicate,← hsz];exact hst'.bare
     have hrun2:=hrun';rw[show (Value.slice (mkA (some b)) i.toNat j.toNat) = .slice (mkA (some b)) (List.replicate i.toNat z).length j.toNat by rw[List.length_replicate]]at hrun2;exact Z0g hr hU hX hn hd hEE rfl hst2 hrel hrun2 h
    ·exact h.elim
   ·exact h.elim
 ·exact h.elim
theorem ZDp {x:V} {cs:List Value} (h:RR v γ l false x cs) (hk:x.ok U):RR v γ l false (ZFf x) cs∧(ZFf x).ok U:=by
 unfold ZFf;split
 ·split
  ·rename_i hc;obtain⟨h1,h2⟩:=Zon (U:=U) (γ:=γ) (l:=l) hc h;exact⟨h1,h2⟩
  ·exact⟨h,hk⟩
 ·exact⟨h,hk⟩
theorem Zyp:∀ {fs:List Field},Zjk P fs=true→∀ w,∃ L:List (Nat×Nat),(fs.mapM λ(f:Field)=>(do pure (f.offset,← sizeOf f.type):Sem (Nat×Nat))).run P w = .ok L w∧∀ (i:Nat) fd,fs[i]? = some fd→∃ inf,P.info? fd.type=some inf∧L[i]? = some (fd.offset,inf.size)
 | [],_,w=>⟨[],by simp,λi fd h=>by simp at h⟩
 | fd :: fs,h,w=>by
  simp only[Zjk]at h
  split at h
  ·rename_i inf hinf
   obtain⟨L,h1,h2⟩:=Zyp h w
   refine⟨(fd.offset,inf.size) :: L,?_,λi fd' hi=>?_⟩
   ·simp at h1
    simp[List.mapM_cons,ZRj hinf,h1]
   ·cases i with
    | zero=>simp at hi;subst hi;exact⟨inf,hinf,rfl⟩
    | succ i=>simp at hi;simpa using h2 i fd' hi
  ·cases h
theorem ZJp {s:TypeId} {fs:Array Field} (hs:P.underlying s=some (.struct fs)) {places:Nat→Option (Nat×Nat)} (hp:∀ (i:Nat) (fd:Field),fs.toList[i]? = some fd→∃ inf,P.info? fd.type=some inf∧places i=some (fd.offset,inf.size)) :
  ∀ {ps:List (Nat×Operand)} {c z z':V} {cs:List Value} {vals:List Value},RR v γ l true c vals→c.ok U→vals.length=ps.length→RR v γ l false z cs→z.ok U→putF P s z (zipV ps c)=some z' →
  ∃ cs',Instr.fill places cs.toArray ((ps.map (·.1)).zip vals)=some cs'.toArray∧RR v γ l false z' cs'∧z'.ok U∧z'.isAgg=z.isAgg
 | [],c,z,z',cs,vals,hc,hk,hl,hz,hkz,h=>by
  have hv:vals=[]:=List.length_eq_zero_iff.1 hl
  subst hv
  have h:some z=some z':=by
   cases c <;> exact h
  cases h
  exact⟨cs,rfl,hz,hkz,rfl⟩
 | p :: ps,c,z,z',cs,vals,hc,hk,hl,hz,hkz,h=>by
  cases vals with
  | nil=>simp at hl
  | cons y vals =>
   cases c with
   | cons x c =>
    obtain⟨cx,vs,e,h1,h2⟩:=hc
    cases e
    simp only[zipV,putF]at h;split at h
    ·rename_i fd hfd;split at h
     ·rename_i q hq;split at h
      ·rename_i zz hsz hfit hput;have hsz:=eQ hsz;obtain⟨k1,k2,k3,k4⟩:=ZEe FU hput hz h1 hkz hk.1;have hfd':fs.toList[p.1]? = some fd:=by
        unfold fldT at hfd;rw[hs]at hfd;exact hfd
       obtain⟨inf,hinf,hpl⟩:=hp _ _ hfd';have hlen:cx.length=inf.size:=by
        rw[ZEd h1,hsz];unfold szA at hq;rw[hinf]at hq;split at hq
        ·rename_i i d e1 e2;cases e1;cases hq;rfl
        ·cases hq
       obtain⟨hcells,_⟩:=Zaj h1 hfit;obtain⟨cs',q1,q2,q3,q4⟩:=ZJp hs hp (ps:=ps) h2 hk.2 (by simpa using hl) k1 k2 h;refine⟨cs',?_,q2,q3,q4.trans k4⟩;simp only[List.map_cons,List.zip_cons_cons];rw[Zyl (cs:=cx) (off:=fd.offset) (by rw[hpl,hlen]) hcells (by simpa using k3)]
       simpa using q1
      ·cases h
     ·cases h
    ·cases h
   | nl=>cases (show (y :: vals)=[] from hc)
   | _=>exact (show False from hc).elim
theorem ZEo {n sz:Nat} {places:Nat→Option (Nat×Nat)} (hp:∀ i,i<n→places i=some (i*sz,sz)) :
  ∀ {ps:List (Nat×Operand)} {c z z':V} {cs:List Value} {vals:List Value},RR v γ l true c vals→c.ok U→vals.length=ps.length→RR v γ l false z cs→z.ok U→putA n sz z (zipV ps c)=some z' →
  ∃ cs',Instr.fill places cs.toArray ((ps.map (·.1)).zip vals)=some cs'.toArray∧RR v γ l false z' cs'∧z'.ok U∧z'.isAgg=z.isAgg
 | [],c,z,z',cs,vals,hc,hk,hl,hz,hkz,h=>by
  have hv:vals=[]:=List.length_eq_zero_iff.1 hl
  subst hv
  have h:some z=some z':=by
   cases c <;> exact h
  cases h
  exact⟨cs,rfl,hz,hkz,rfl⟩
 | p :: ps,c,z,z',cs,vals,hc,hk,hl,hz,hkz,h=>by
  cases vals with
  | nil=>simp at hl
  | cons y vals =>
   cases c with
   | cons x c =>
    obtain⟨cx,vs,e,h1,h2⟩:=hc
    cases e
    simp only[zipV,putA]at h;split at h
    ·rename_i zz hlt hsz hfit hput;have hlt:p.1<n:=lB hlt;have hsz:=eQ hsz;obtain⟨k1,k2,k3,k4⟩:=ZEe FU hput hz h1 hkz hk.1;have hlen:cx.length=sz:=by rw[ZEd h1,hsz]
     obtain⟨hcells,_⟩:=Zaj h1 hfit;obtain⟨cs',q1,q2,q3,q4⟩:=ZEo hp (ps:=ps) h2 hk.2 (by simpa using hl) k1 k2 h;refine⟨cs',?_,q2,q3,q4.trans k4⟩;simp only[List.map_cons,List.zip_cons_cons];rw[Zyl (cs:=cx) (off:=p.1*sz) (by rw[hp _ hlt,hlen]) hcells (by simpa using k3)]
     simpa using q1
    ·cases h
   | nl=>cases (show (y :: vals)=[] from hc)
   | _=>exact (show False from hc).elim
theorem ZGv {C:Cf} (hr:RelX N G w0 v0 U X f l a w γ v ℓ) (hU:∀ k,U k→X k) (hX:X n) {t:TypeId} {ps:Array (Nat×Operand)} {o:Oper} {Post:Unit→Fr→Lo→Prop} (ho:o=⟨d,.build t ps,ty,pos,aft,g⟩) (hd:∀ k,o.dst=some k→k<N)
  (h:Zl n (Z1 C n o) f l Post):Zsa C.P N G w0 v0 X o a w Post:=by
 subst ho;simp only[Z1]at h;split at h
 ·rename_i z fs hz ht;split at h
  ·rename_i hfl hag1 hag2;obtain⟨y,cs,hy,hcells,hzz,hkz,_⟩:=ZPk (v:=v) (γ:=γ) (l:=l) (U:=U) hz;obtain⟨L,hL1,hL2⟩:=Zyp hfl w;have hA:(fs.mapM λ(f:Field)=>(do pure (f.offset,← sizeOf f.type):Sem (Nat×Nat))).run C.P w = .ok L.toArray w:=by
    rw[Array.mapM_eq_mapM_toList];simp at hL1;simp[hL1]
   have hplaces:∀ (i:Nat) (fd:Field),fs.toList[i]? = some fd→∃ inf,C.P.info? fd.type=some inf∧(L.toArray[·]?) i=some (fd.offset,inf.size):=λi fd hi=>by
    obtain⟨inf,h1,h2⟩:=hL2 i fd hi;exact⟨inf,h1,by simpa using h2⟩
   have hev:∀ (vals:List (Nat×Value)) (cs':List Value),ps.toList.map (λp=>(p.1,a.eval p.2))=vals→Instr.fill (L.toArray[·]?) cs.toArray vals=some cs'.toArray→(execOp a.eval ⟨d,.build t ps,ty,pos,aft,g⟩).run C.P w = .ok (.value (.agg cs'.toArray)) w:=by
    intro vals cs' hv hf;obtain⟨σ,hσ,hev⟩:=hr.st.evs (ps.toList.map (·.2));refine Zvk hσ vals ?_ ?_
    ·rw[← hv,List.map_map];refine List.map_congr_left λp hp=>?_;rw[hev p.2 (List.mem_map.2 ⟨p,hp,rfl⟩)];rfl
    ·simp at hA hf;simp[Instr.build,hy w,hcells,run_underlying ht,hA,hf]
   split at h
   ·rename_i hps;refine ZQ hr hU (hev [] cs (by rw[hps];rfl) rfl) hd hX ?_ (V.ok.mono hU hkz) h;have:=Zrc hzz (λc e=>by subst e;cases hag2);unfold V.val at this;rw[hag2]at this;exact this
   ·rename_i hps;obtain⟨c,h1,h2,h⟩:=Zmf hr h;split at h
    ·rename_i z' hz';obtain⟨o1,o2⟩:=ZDp hzz hkz;have hvl:=h1;rw[List.map_map]at h1;obtain⟨cs',k1,k2,k3,k4⟩:=ZJp ht hplaces (ps:=ps.toList) h1 h2 (by simp) o1 o2 hz';refine ZQ hr hU (hev _ cs' rfl ?_) hd hX ?_ (V.ok.mono hU k3) h
     ·rw[← k1];congr 1;rw[List.zip_map,← List.map_id (ps.toList.zip ps.toList)];simp[List.zip_eq_zipWith,List.zipWith_self,List.map_map]
     ·have:=Zrc k2 (λc e=>by subst e;rw[hag1]at k4;cases k4);unfold V.val at this;rw[k4,hag1]at this;exact this
    ·exact h.elim
  ·exact h.elim
 ·rename_i z m e hz ht;split at h
  ·rename_i inf hinf hag1 hag2;obtain⟨y,cs,hy,hcells,hzz,hkz,_⟩:=ZPk (v:=v) (γ:=γ) (l:=l) (U:=U) hz;obtain⟨c,h1,h2,h⟩:=Zmf hr h;split at h
   ·rename_i z' hz';obtain⟨o1,o2⟩:=ZDp hzz hkz;rw[List.map_map]at h1;obtain⟨cs',k1,k2,k3,k4⟩:=ZEo (places:=λi=>some (i*inf.size,inf.size)) (λi _=>rfl) (ps:=ps.toList) h1 h2 (by simp) o1 o2 hz';obtain⟨σ,hσ,hev⟩:=hr.st.evs (ps.toList.map (·.2));have hk1:Instr.fill (λi=>some (i*inf.size,inf.size)) cs.toArray (ps.toList.map λp=>(p.1,a.eval p.2))=some cs'.toArray:=by
     rw[← k1];congr 1;rw[List.zip_map,← List.map_id (ps.toList.zip ps.toList)];simp[List.zip_eq_zipWith,List.zipWith_self,List.map_map]
    refine ZQ hr hU (Zvk hσ (ps.toList.map λp=>(p.1,a.eval p.2)) ?_ (z:=.agg cs'.toArray) ?_) hd hX ?_ (V.ok.mono hU k3) h
    ·rw[List.map_map];refine List.map_congr_left λp hp=>?_;rw[hev p.2 (List.mem_map.2 ⟨p,hp,rfl⟩)];rfl
    ·simp[Instr.build,hy w,hcells,run_underlying ht,ZRj hinf,hk1]
    ·have:=Zrc k2 (λc e=>by subst e;rw[hag1]at k4;cases k4);unfold V.val at this;rw[k4,hag1]at this;exact this
   ·exact h.elim
  ·exact h.elim
 ·exact h.elim
end
end Go.Eng
namespace Go.Eng
open Go.RowKit
def CT.isAgg:CT→Bool
 | .dat t=>t.agg
 | .agg _=>true
 | _=>false
def CT.vl (c:CT) (cs:List Value):Value:=match c.isAgg with
 | true=>.agg cs.toArray
 | false=>cs.headD Go.undef
def CR (v:Zb):(c:CT)→Bool→c.den→List Value→List Loc→Prop
 | .dat t,false,x,cs,es=>t.rep.rel v cs x∧es=[]
 | .own ty t,false,(xs:List t.den),cs,es=>∃ ob cap d,cs=[.slice (mkA ob) xs.length cap]∧t.rep.rels v d xs∧es=[.own ob ty t.n xs.length cap d]
 | .mat ty ty2 t,false,(m:List (List t.den)),cs,es=>∃ ob cap rows es2,cs=[.slice (mkA ob) m.length cap]∧Zqa v ty2 t rows m es2∧es = .own ob ty 1 m.length cap (Zo rows m) :: es2
 | .nl,_,_,cs,es=>cs=[]∧es=[]
 | .one a,false,x,cs,es=>CR v a false x cs es
 | .one a,true,x,cs,es=>∃ c,cs=[a.vl c]∧CR v a false x c es
 | .cons a b,false,x,cs,es=>∃ c1 c2 e1 e2,cs=c1++c2∧es=e1++e2∧CR v a false x.1 c1 e1∧CR v b false x.2 c2 e2
 | .cons a b,true,x,cs,es=>∃ c1 xs e1 e2,cs=a.vl c1 :: xs∧es=e1++e2∧CR v a false x.1 c1 e1∧CR v b true x.2 xs e2
 | .agg c,false,x,cs,es=>CR v c false x cs es
 | .box ty c,false,x,cs,es=>∃ b c1 e1,cs=[.pointer (some ⟨b,0,none⟩)]∧CR v c false x c1 e1∧c1.all plain=true∧es = .box b ty c1 :: e1
 | _,_,_,_,_=>False
def CRL (v:Zb):(c:CT)→c.den→Gh→List Loc→Prop
 | .own ty t,(xs:List t.den),g,es=>∃ ob cap d,g = .own ob cap∧t.rep.rels v d xs∧es=[.own ob ty t.n xs.length cap d]
 | .mat ty ty2 t,(m:List (List t.den)),g,es=>∃ ob cap rows es2,g = .mat ob cap rows∧Zqa v ty2 t rows m es2∧es = .own ob ty 1 m.length cap (Zo rows m) :: es2
 | .box ty c,z,g,es=>∃ b c1 e1,g = .box b∧CR v c false z c1 e1∧c1.all plain=true∧es = .box b ty c1 :: e1
 | .agg (.mat ty ty2 t),(m:List (List t.den)),g,es=>∃ ob cap rows es2,g = .mat ob cap rows∧Zqa v ty2 t rows m es2∧es = .own ob ty 1 m.length cap (Zo rows m) :: es2
 | _,_,_,_=>False
def Zra (v:Zb):(ts:List T)→List Value→Zy ts→Prop
 | [],vals,_=>vals=[]
 | [t],vals,x=>∃ cs,vals=[t.rep.val cs]∧t.rep.rel v cs x
 | t :: u :: r,vals,x=>∃ cs vs,vals=t.rep.val cs :: vs∧t.rep.rel v cs x.1∧Zra v (u :: r) vs x.2
def Z8d (v:Zb) (ts:List T) (y:Value) (z:Zy ts):Prop:=match ts,z with
 | [t],z=>∃ cs,y=t.rep.val cs∧t.rep.rel v cs z
 | ts,z=>∃ vals:List Value,y = .tuple vals.toArray∧Zra v ts vals z
def ZGd (P:Program) (f:FuncId) (c:Con):Prop:=∀ (w:World) (v:Zb) (vals:List Value) (x:Zy c.args) (z:Zy c.res),VIn v w→Zra v c.args vals x→c.F x=some z →
 (ZB P f∧Ret P f vals.toArray w v λy v'=>Z8d v' c.res y z) ∨ ∃ y,(∀ w,(callFunc f vals.toArray).run P w = .ok (.value y) w)∧Z8d v c.res y z
def Zze (P:Program) (f:FuncId) (c:ConO):Prop:=∀ (w:World) (v:Zb) (vals:List Value) (x:Zy c.args) (z:List c.t.den),VIn v w→Zra v c.args vals x→c.F x=some z →
 ZB P f∧RetO P f vals.toArray w v (OwnR c.t.rep c.ty c.t.n z w)
def ZVj (P:Program) (f:FuncId) (c:ConI):Prop:=∀ (w:World) (v:Zb) (ob:Option Nat) (n cap:Nat) (cs:List Value) (l:List c.t.den) (i:Int) (bv kv:Nat) (c0:Array Value) (x:c.t.den) (z:List c.t.den),VIn v w→(Loc.own ob c.ty c.t.n n cap cs).holds w→(∀ b,ob=some b→v b=none)→c.t.rep.rels v cs l→n=l.length →
 1≤kv→v bv=some (.cells c0 c.ty (0,0))→c.t.rep.rel v (c0.toList.take c.t.n) x→inR .i64 i→c.F l i x=some z →
 ZB P f∧Zfd P f #[.slice (mkA ob) n cap,.int .i64 i,.slice (some ⟨bv,0,none⟩) 1 kv] w v ob.toList (OwnI c.t.rep c.ty c.t.n z ob w)
def OwnM (ty ty2:TypeId) (t:T) (m:List (List t.den)) (w:World) (r:Value) (v':Zb) (w':World):Prop :=
 ∃ ob cap rows es,r = .slice (mkA ob) m.length cap∧Zqa v' ty2 t rows m es∧(∀ x ∈ Loc.own ob ty 1 m.length cap (Zo rows m) :: es,x.holds w'∧∀ b,x.blk=some b→w.heap.size≤b∧v' b=none)∧((Loc.own ob ty 1 m.length cap (Zo rows m) :: es).filterMap Loc.blk).Nodup
def Zxg (P:Program) (f:FuncId) (c:ConM):Prop:=∀ (w:World) (v:Zb) (vals:List Value) (x:Zy c.args) (z:List (List c.t.den)),VIn v w→Zra v c.args vals x→c.F x=some z →
 ZB P f∧RetO P f vals.toArray w v (OwnM c.ty c.ty2 c.t z w)
def OwnB (ty:TypeId) (c:CT) (res:List T) (b:Nat) (r:c.den×Zy res) (lent:List Nat) (w:World) (y:Value) (v':Zb) (w':World):Prop :=
 Z8d v' res y r.2∧∃ es',CRL v' (.box ty c) r.1 (.box b) es'∧(∀ e ∈ es',e.holds w'∧∀ k,e.blk=some k→(w.heap.size≤k∨k ∈ lent)∧v' k=none)∧(es'.filterMap Loc.blk).Nodup
def ZCf (P:Program) (f:FuncId) (c:ConB):Prop:=∀ (w:World) (v:Zb) (b:Nat) (es:List Loc) (vals:List Value) (z:c.c.den) (x:Zy c.args) (r:c.c.den×Zy c.res),VIn v w→CRL v (.box c.ty c.c) z (.box b) es→(∀ e ∈ es,e.holds w∧∀ k,e.blk=some k→v k=none)→(es.filterMap Loc.blk).Nodup→Zra v c.args vals x→c.F z x=some r →
 ZB P f∧Zfd P f (Value.pointer (some ⟨b,0,none⟩) :: vals).toArray w v (es.filterMap Loc.blk) (OwnB c.ty c.c c.res b r (es.filterMap Loc.blk) w)
def Zug (P:Program) (f:FuncId) (c:ConD):Prop:=∀ (w:World) (v:Zb) (ob:Option Nat) (n cap:Nat) (cs:List Value) (l:List c.t.den) (i j:Int) (z:List c.t.den),VIn v w→(Loc.own ob c.ty c.t.n n cap cs).holds w→(∀ b,ob=some b→v b=none)→c.t.rep.rels v cs l→n=l.length→inR .i64 i→inR .i64 j→c.F l i j=some z →
 ZB P f∧Zfd P f #[.slice (mkA ob) n cap,.int .i64 i,.int .i64 j] w v ob.toList (OwnI c.t.rep c.ty c.t.n z ob w)
def OwnPR (ty:TypeId) (t:T) (res:List T) (z:List t.den×Zy res) (w:World) (y:Value) (v':Zb) (w':World):Prop :=
 ∃ r0 rest,y = .tuple (r0 :: rest).toArray∧OwnR t.rep ty t.n z.1 w r0 v' w'∧Zra v' res rest z.2
def Zlg (P:Program) (f:FuncId) (c:ConP):Prop:=∀ (w:World) (v:Zb) (vals:List Value) (x:Zy c.args) (z:List c.t.den×Zy c.res),VIn v w→Zra v c.args vals x→c.F x=some z →
 ZB P f∧RetO P f vals.toArray w v (OwnPR c.ty c.t c.res z w)
structure CfOK (C:Cf):Prop where
 c:∀ f c,ZT C.cons f=some c→ZGd C.P f c
 o:∀ f c,ZT C.owns f=some c→Zze C.P f c
 i:∀ f c,ZT C.ins f=some c→ZVj C.P f c
 m:∀ t s f,lkM C.meths t s=some f→∀ y w,(method (C.P.types.size+Made.depth) t y s).run C.P w = .ok (f,y) w
 q:∀ f c,ZT C.omats f=some c→Zxg C.P f c
 b:∀ f c,ZT C.boxs f=some c→ZCf C.P f c
 d:∀ f c,ZT C.dels f=some c→Zug C.P f c
 p:∀ f c,ZT C.pows f=some c→Zlg C.P f c
section
variable {P:Program} {N:Nat} {G:V→Value→Prop} {w0:Base} {v0:Zb} {U X:Nat→Prop} {f:Fr} {l:Lo} {a:Act} {w:World} {γ:Nat→Gh} {v:Zb} {ℓ:List Loc} {n:Nat}
variable {d:Option Nat} {ty:TypeId} {pos:String} {aft:Array Edge} {g:Option (Nat×Bool)}
theorem ZAq (hr:RelX N G w0 v0 U X f l a w γ v ℓ) {lo:Option Operand} {k:Option Int→Ev Unit} {Post:Unit→Fr→Lo→Prop} (h:Zl n (optI lo k) f l Post):∃ i,Zl n (k i) f l Post∧((lo=none∧i=none) ∨ ∃ y κ q,lo=some y∧i=some q∧a.eval y = .int κ q):=by
 cases lo with
 | none=>exact⟨none,h,.inl ⟨rfl,rfl⟩⟩
 | some y =>
  obtain⟨V1,h1,_,hA⟩:=ZM hr h;obtain⟨κ,i,rfl,hB⟩:=Z5a hA;exact⟨some i,hB,.inr ⟨y,κ,i,rfl,rfl,(ZKa h1).1⟩⟩
theorem Zxj (hr:RelX N G w0 v0 U X f l a w γ v ℓ) (hU:∀ k,U k→X k) (hX:X n) {t:TypeId} {x:Operand} {lo hi:Option Operand} {o:Oper} {p:V} {i j:Option Int} {Post:Unit→Fr→Lo→Prop} (ho:o=⟨d,.slice t x lo hi none,ty,pos,aft,g⟩) (hd:∀ k,o.dst=some k→k<N) (hp:RV v γ l p (a.eval x))
  (hlo:(lo=none∧i=none) ∨ ∃ y κ q,lo=some y∧i=some q∧a.eval y = .int κ q) (hhi:(hi=none∧j=none) ∨ ∃ y κ q,hi=some y∧j=some q∧a.eval y = .int κ q) (h:Zl n (cutE P o t p i j) f l Post):Zsa P N G w0 v0 X o a w Post:=by
 obtain⟨σ,hσ,hev⟩:=hr.st.evs (x :: (lo.toList++hi.toList));have hx:=hev x (by simp);have h1:∀ m:Int,(Zzg i 0=m)→(lo=none∧m=0) ∨ ∃ y k,lo=some y∧ev σ y=some (.int k m):=by
  intro m hm;rcases hlo with ⟨e1,e2⟩ | ⟨y,κ,q,e1,e2,e3⟩
  ·subst e2;exact .inl ⟨e1,hm.symm⟩
  ·subst e1 e2;have hm:q=m:=hm;exact .inr ⟨y,κ,rfl,by rw[hev y (by simp),e3,hm]⟩
 have h2:∀ (len:Nat) (m:Int),(Zzg j (len:Int)=m)→(hi=none∧m=len) ∨ ∃ y k,hi=some y∧ev σ y=some (.int k m):=by
  intro len m hm;rcases hhi with ⟨e1,e2⟩ | ⟨y,κ,q,e1,e2,e3⟩
  ·subst e2;exact .inl ⟨e1,hm.symm⟩
  ·subst e1 e2;have hm:q=m:=hm;exact .inr ⟨y,κ,rfl,by rw[hev y (by simp),e3,hm]⟩
 unfold cutE at h;split at h
 ·rename_i s xs;obtain⟨qa,m,c,hy,hR⟩:=ZVk hp;rw[hy]at hx;split at h
  ·rename_i q hq;split at h
   ·rename_i hb;have hb:=eQ hb;have hSl:=Zrl hq;rw[hb,← ZU]at hSl;obtain⟨yy,hyy,h⟩:=h;obtain⟨c0,c1,c2,c3,_⟩:=Ztf hyy;obtain⟨q',cap',hrun,hrel⟩:=Z3t hσ hSl hR c0 c1 c2;rw[← c3]at hrel;subst ho;exact ZQ hr hU (hrun hx (h1 _ rfl) (h2 _ _ rfl)) hd hX (x:=.data (.slice s) yy) ⟨[_],hrel,rfl⟩ trivial h
   ·exact h.elim
  ·exact h.elim
 ·obtain⟨e1,e2⟩:=Z7g hp;rw[e1]at hx;split at h
  ·rename_i ht;obtain⟨yy,hyy,h⟩:=h;subst ho;exact ZQ hr hU (ZHv hσ hx ht (h1 _ rfl) (h2 _ _ rfl) hyy) hd hX (Z1i (Zpt hyy e2)) trivial h
  ·exact h.elim
 ·exact h.elim
theorem Zhf {ρ:Type}:∀ (g:Nat) {t:T} {x:V} {k:t.den→Ev ρ} {l:Lo} {Post:ρ→Fr→Lo→Prop},Zl n (conv g t x k) f l Post→x.isAgg=t.agg
 | 0,_,_,_,_,_,h=>h.elim
 | g+1,t,x,k,l,Post,h=>by
  cases x with
  | data s x =>
   simp only[conv]at h
   split at h
   ·rename_i y hy
    obtain⟨e,_⟩:=Z2 hy
    subst e;rfl
   ·split at h
    ·rfl
    ·rfl
    ·rfl
    ·rfl
    ·rfl
    ·split at h
     ·rename_i c hc
      have h1:=Zhf g (x:=.agg c) h
      have h2:s.agg=true:=by
       unfold Z3d at hc;split at hc <;> first | rfl | cases hc
      exact h2.trans h1
     ·exact h.elim
  | nilS =>
   simp only[conv]at h;split at h <;> first | rfl | exact h.elim
  | own u =>
   simp only[conv]at h;obtain⟨e,he,h⟩:=h;obtain⟨kk,st,L⟩:=e
   cases L with
   | box _ _=>exact h.elim
   | mid _ _ _ _ _ _=>exact h.elim
   | own ty s xs fz =>
    cases fz with
    | true=>exact Zhf g (x:=.data (.slice s) xs) h
    | false=>exact Zhf g (x:=.data (.slice s) xs) h
   | mat ty _ s m _=>exact Zhf g (x:=.data (.slice (.slice s)) m) h
  | agg c =>
   cases c with
   | cons x1 c =>
    cases c with
    | cons x2 r=>simp only[conv]at h;split at h <;> first | rfl | exact h.elim
    | nl=>simp only[conv]at h;split at h <;> first | rfl | exact h.elim
    | _=>simp only[conv]at h;exact h.elim
   | _=>simp only[conv]at h;exact h.elim
  | ptr u o =>
   cases o with
   | succ _=>simp only[conv]at h;exact h.elim
   | zero=>simp only[conv]at h;split at h <;> first | rfl | exact h.elim
  | _=>simp only[conv]at h;exact h.elim
theorem ZAr {x:V} {t:T} {cs:List Value} (h:x.isAgg=t.agg):x.val cs=t.rep.val cs:=by
 unfold V.val Rep.val;rw[h,Zio]
 cases t.agg <;> rfl
theorem Zql {v v':Zb} (h:v.le v'):∀ {ts:List T} {vals:List Value} {x:Zy ts},Zra v ts vals x→Zra v' ts vals x
 | [],_,_,k=>k
 | [_],_,_,⟨cs,h1,h2⟩=>⟨cs,h1,Rep.mono _ h h2⟩
 | _ :: _ :: _,_,_,⟨cs,vs,h1,h2,h3⟩=>⟨cs,vs,h1,Rep.mono _ h h2,Zql h h3⟩
theorem ZJe {ρ:Type} (hn:¬ U n) (hX:X n):∀ {ts:List T} {c:V} {k:Zy ts→Ev ρ} {l:Lo} {γ:Nat→Gh} {v:Zb} {ℓ:List Loc} {Post:ρ→Fr→Lo→Prop},Zl n (ZBd ts c k) f l Post→RelX N G w0 v0 U X f l a w γ v ℓ→c.ok U →
  ∃ x l' γ' v' ℓ',Zl n (k x) f l' Post∧RelX N G w0 v0 U X f l' a w γ' v' ℓ'∧Le U v γ l v' γ' l'∧∀ vals,RR v γ l true c vals→Zra v' ts vals x
 | [],c,k,l,γ,v,ℓ,Post,h,hr,hk=>by
  obtain⟨E,hE,_⟩:=hr.lr
  cases c with
  | nl=>exact⟨(),l,γ,v,ℓ,h,hr,Le.refl hE (Zb.le_refl _),λvals hv=>hv⟩
  | _=>exact h.elim
 | [t],c,k,l,γ,v,ℓ,Post,h,hr,hk=>by
  cases c with
  | cons x c =>
   cases c with
   | nl =>
    have hag:=Zhf FU (n:=n) (f:=f) (l:=l) (t:=t) (x:=x) h
    obtain⟨y,l1,γ1,v1,ℓ1,h,r1,le1,q1⟩:=ZUd hn hX FU h hr hk.1
    refine⟨y,l1,γ1,v1,ℓ1,h,r1,le1,λvals hv=>?_⟩
    obtain⟨cs,vs,rfl,h1,h2⟩:=hv
    have h2:vs=[]:=h2
    subst h2
    exact⟨cs,by rw[ZAr hag],q1 _ h1⟩
   | _=>exact h.elim
  | _=>exact h.elim
 | t :: u :: r,c,k,l,γ,v,ℓ,Post,h,hr,hk=>by
  cases c with
  | cons x c =>
   have h':Zl n (conv FU t x λx=>ZBd (u :: r) c λy=>k (x,y)) f l Post:=by
    cases c <;> exact h
   have hag:=Zhf FU (n:=n) (f:=f) (l:=l) (t:=t) (x:=x) h';obtain⟨y,l1,γ1,v1,ℓ1,h1,r1,le1,q1⟩:=ZUd hn hX FU h' hr hk.1;obtain⟨ys,l2,γ2,v2,ℓ2,h2,r2,le2,q2⟩:=ZJe hn hX h1 r1 hk.2;refine⟨(y,ys),l2,γ2,v2,ℓ2,h2,r2,le1.trans le2,λvals hv=>?_⟩;obtain⟨cs,vs,rfl,h3,h4⟩:=hv;exact⟨cs,vs,by rw[ZAr hag],Rep.mono _ le2.v (q1 _ h3),q2 _ (Zsb le1 hk.2 h4)⟩
  | _=>exact h.elim
theorem Zfl {v:Zb}:∀ {ts:List T} {vals:List Value} {x:Zy ts},Zra v ts vals x→RR v γ l true (Z4c ts x) vals∧(Z4c ts x).ok U
 | [],_,_,h=>⟨h,trivial⟩
 | [t],_,x,⟨cs,h1,h2⟩=>⟨⟨cs,[],by rw[h1];exact congrArg (λz=>[z]) (Z5e (t:=t) (x:=x) (cs:=cs)).symm,h2,rfl⟩,trivial,trivial⟩
 | t :: u :: r,_,x,⟨cs,vs,h1,h2,h3⟩=>by
  obtain⟨k1,k2⟩:=Zfl h3
  exact⟨⟨cs,vs,by rw[h1];exact congrArg (· :: vs) (Z5e (t:=t) (x:=x.1) (cs:=cs)).symm,h2,k1⟩,trivial,k2⟩
theorem ZTk {v:Zb} {ts:List T} {y:Value} {z:Zy ts} (h:Z8d v ts y z):RV v γ l (ZAd (Z4c ts z)) y∧(ZAd (Z4c ts z)).ok U:=by
 match ts,z,h with
 | [],z,⟨vals,h1,h2⟩=>exact⟨⟨vals,h2,h1⟩,trivial⟩
 | [t],z,⟨cs,h1,h2⟩=>exact⟨⟨cs,h2,by rw[h1];exact (Z5e (t:=t) (x:=z) (cs:=cs)).symm⟩,trivial⟩
 | t :: u :: r,z,⟨vals,h1,h2⟩ =>
  obtain⟨k1,k2⟩:=Zfl (γ:=γ) (l:=l) (U:=U) h2
  cases r <;> exact⟨⟨vals,k1,h1⟩,k2⟩
theorem ZFq {σ:List (Nat×Value)} (hS:St N w0 v0 σ ℓ v a w) {x:Operand} {m:String} {f:FuncId} {xs:Array Operand} {ats:Array TypeId} {t:TypeId} {y:Value} (vals:List Value) (hm:∀ w,(method (P.types.size+Made.depth) t y m).run P w = .ok (f,y) w) (e:ev σ x=some (.iface t y))
  (h:xs.toList.map (ev σ)=vals.map some) {r:Go.Next} (hf:(callFunc f (y :: vals).toArray).run P w = .ok r w):(execOp a.eval ⟨d,.call ⟨.invoke x m,xs,ats⟩,ty,pos,aft,g⟩).run P w = .ok r w:=by
 have hx:xs.map a.eval=vals.toArray:=by
  apply Array.ext';rw[Array.toList_map];generalize xs.toList=l at h;clear hf
  induction l generalizing vals with
  | nil=>cases vals <;> simp_all
  | cons y l ih =>
   cases vals with
   | nil=>simp at h
   | cons u vals =>
    simp at h;simp[hS.eval h.1,ih vals h.2]
 simp[execOp,resolve,invoke,callMethod,hx,hS.eval e,hm,hf]
theorem ZOl (hr:RelX N G w0 v0 U X f l a w γ v ℓ) (hU:∀ k,U k→X k) (hX:X n) (hn:¬ U n) {e:TypeId} {s:T} {xs:List s.den} {o:Oper} {ob:Option Nat} {cap:Nat} {cs:List Value} {Post:Unit→Fr→Lo→Prop} (hd:∀ k,o.dst=some k→k<N)
  (hst:St N w0 v0 [] (.own ob e s.n xs.length cap cs :: ℓ) v a w) (hc:s.rep.rels v cs xs) (h:Zl n (Ev.new n (.own e s xs false) (ret o (.own n))) f l Post):∃ f' l',Post () f' l'∧Rel N G w0 v0 X f' l' (a.put o.dst (.slice (mkA ob) xs.length cap)) w:=by
 obtain⟨hnew,h⟩:=h;obtain⟨E,hE,hpm⟩:=hr.lr;have hr':=hr.new (γ':=ZXb γ n (.own ob cap)) (L':=.own e s xs false) hX hX hn hnew hE (hst.perm (List.Perm.cons _ hpm)) (Zb.le_refl _) (λ_ h=>Z8b h) ⟨ob,cap,cs,ZZa,hc,rfl⟩ (List.Perm.refl _) trivial;unfold ret at h
 cases hdd:o.dst with
 | none=>rw[hdd]at h;exact h.elim
 | some d =>
  rw[hdd]at h;refine⟨_,_,h,_,_,_,(hr'.mono hU λ_ h=>h).put (hd d hdd) (x:=.own n) ⟨[_],⟨_,rfl,by cases ob <;> rfl,λe' he'=>?_⟩,rfl⟩ hX hX⟩;rw[ZS,iP rfl]at he';cases he';exact⟨_,_,ZZa,rfl⟩
theorem Zot (hr:RelX N G w0 v0 U X f l a w γ v ℓ) (hU:∀ k,U k→X k) (hX:X n) (hn:¬ U n) {e:TypeId} {s:T} {xs:List s.den} {res:List T} {z2:Zy res} {rest:List Value} {o:Oper} {ob:Option Nat} {cap:Nat} {cs:List Value} {Post:Unit→Fr→Lo→Prop} (hd:∀ k,o.dst=some k→k<N)
  (hst:St N w0 v0 [] (.own ob e s.n xs.length cap cs :: ℓ) v a w) (hc:s.rep.rels v cs xs) (hrest:Zra v res rest z2) (h:Zl n (Ev.new n (.own e s xs false) (ret o (.tup (.cons (.own n) (Z4c res z2))))) f l Post):∃ f' l',Post () f' l'∧Rel N G w0 v0 X f' l' (a.put o.dst (.tuple (.slice (mkA ob) xs.length cap :: rest).toArray)) w:=by
 obtain⟨hnew,h⟩:=h;obtain⟨E,hE,hpm⟩:=hr.lr;have hr':=hr.new (γ':=ZXb γ n (.own ob cap)) (L':=.own e s xs false) hX hX hn hnew hE (hst.perm (List.Perm.cons _ hpm)) (Zb.le_refl _) (λ_ h=>Z8b h) ⟨ob,cap,cs,ZZa,hc,rfl⟩ (List.Perm.refl _) trivial;unfold ret at h
 cases hdd:o.dst with
 | none=>rw[hdd]at h;exact h.elim
 | some d =>
  rw[hdd]at h;obtain⟨k1,k2⟩:=Zfl (γ:=ZXb γ n (.own ob cap)) (l:=⟨n,n,LV.own e s xs false⟩ :: l) (U:=X) hrest;refine⟨_,_,h,_,_,_,(hr'.mono hU λ_ h=>h).put (hd d hdd) (x:=.tup (.cons (.own n) (Z4c res z2))) ⟨_ :: rest,⟨[_],rest,rfl,⟨_,rfl,by cases ob <;> rfl,λe' he'=>?_⟩,k1⟩,rfl⟩ ⟨hX,k2⟩ hX⟩;rw[ZS,iP rfl]at he';cases he';exact⟨_,_,ZZa,rfl⟩
theorem St.addL {K:Nat} {w0:Base} {v0:Zb} {σ:List (Nat×Value)} {ℓ es:List Loc} {v:Zb} {a:Act} {w:World} {s:Nat} (h:St K w0 v0 σ ℓ v a w) (hs:w0.wd.heap.size≤s) (hnew:∀ x ∈ es,x.holds w∧∀ b,x.blk=some b→s≤b∧v b=none) (hnd:(es.filterMap Loc.blk).Nodup) (hold:∀ x ∈ ℓ,∀ b,x.blk=some b→b<s):St K w0 v0 σ (es++ℓ) v a w:=by
 refine⟨h.size,h.dfr,h.fr,h.ext,h.vst,λx hx=>?_,?_⟩
 ·rcases List.mem_append.1 hx with hx | hx
  ·exact⟨(hnew x hx).1,λb eb=>⟨.inl (Nat.le_trans hs ((hnew x hx).2 b eb).1),((hnew x hx).2 b eb).2⟩⟩
  ·exact h.loc x hx
 ·rw[List.filterMap_append];refine List.nodup_append.2 ⟨hnd,h.nd,λb hb b' hb' e=>?_⟩;subst e;obtain⟨x,hx,hxb⟩:=List.mem_filterMap.1 hb;obtain⟨y,hy,hyb⟩:=List.mem_filterMap.1 hb';have h1:=((hnew x hx).2 b hxb).1;have h2:=hold y hy b hyb;omega
theorem put_mat (hr:RelX N G w0 v0 U X f l a w γ v ℓ) (hU:∀ k,U k→X k) (hX:X n) (hn:¬ U n) {ty ty2:TypeId} {t:T} {m:List (List t.den)} {o:Oper} {ob:Option Nat} {cap:Nat} {rows:List (Option Nat×Nat)} {es:List Loc} {Post:Unit→Fr→Lo→Prop} (hd:∀ k,o.dst=some k→k<N)
  (hst:St N w0 v0 [] ((.own ob ty 1 m.length cap (Zo rows m) :: es)++ℓ) v a w) (hc:Zqa v ty2 t rows m es) (h:Zl n (Ev.new n (.mat ty ty2 t m n) (ret o (.own n))) f l Post):∃ f' l',Post () f' l'∧Rel N G w0 v0 X f' l' (a.put o.dst (.slice (mkA ob) m.length cap)) w:=by
 obtain⟨hnew,h⟩:=h;obtain⟨E,hE,hpm⟩:=hr.lr;have hr':=hr.new (γ':=ZXb γ n (.mat ob cap rows)) (L':=.mat ty ty2 t m n) (es':=.own ob ty 1 m.length cap (Zo rows m) :: es) hX hX hn hnew hE (hst.perm (List.Perm.append_left _ hpm)) (Zb.le_refl _) (λ_ h=>Z8b h) ⟨ob,cap,rows,es,ZZa,hc,rfl⟩ (List.Perm.refl _) hX;unfold ret at h
 cases hdd:o.dst with
 | none=>rw[hdd]at h;exact h.elim
 | some d =>
  rw[hdd]at h;refine⟨_,_,h,_,_,_,(hr'.mono hU λ_ h=>h).put (hd d hdd) (x:=.own n) ⟨[_],⟨_,rfl,by cases ob <;> rfl,λe' he'=>?_⟩,rfl⟩ hX hX⟩;rw[ZS,iP rfl]at he';cases he';exact⟨_,_,_,ZZa,rfl⟩
theorem ZYr {c:ConI} {fid:FuncId} (hI:ZVj P fid c) (hr:RelX N G w0 v0 U X f l a w γ v ℓ) (hU:∀ k,U k→X k) (hX:X n) (hn:¬ U n) {o:Oper} {Post:Unit→Fr→Lo→Prop} (hd:∀ k,o.dst=some k→k<N) {ob:Option Nat} {cap:Nat} {cs:List Value} {xs:List c.t.den} {i:Int} {bv kv:Nat} {c0:Array Value} {x:c.t.den} {z:List c.t.den}
  (hst:St N w0 v0 [] (.own ob c.ty c.t.n xs.length cap cs :: ℓ) v a w) (hA:c.t.rep.rels v cs xs) (hkv:1≤kv) (hbv:v bv=some (.cells c0 c.ty (0,0))) (hx:c.t.rep.rel v (c0.toList.take c.t.n) x) (hi:inR .i64 i) (hz:c.F xs i x=some z)
  (hent:ZB P fid→(execOp a.eval o).run P w = .ok (.enter fid #[.slice (mkA ob) xs.length cap,.int .i64 i,.slice (some ⟨bv,0,none⟩) 1 kv]) w) (h:Zl n (Ev.new n (.own c.ty c.t z false) (ret o (.own n))) f l Post):Zsa P N G w0 v0 X o a w Post:=by
 obtain⟨hh,hb⟩:=hst.loc _ List.mem_cons_self;obtain⟨hen,hret⟩:=hI w v ob xs.length cap cs xs i bv kv c0 x z hst.vin hh (λb e=>(hb b e).2) hA rfl hkv hbv hx hi hz;refine ZFc (hent hen) (Calls.mono hret λe w' ⟨r,v',e1,e2,e3,e4⟩=>⟨r,e1,?_⟩);obtain⟨ob',n',cap',cs',rfl,hh',hb',hA',hn'⟩:=e4;subst hn';have hS:=hst.afterI (i:=0) (e':=.own ob' c.ty c.t.n z.length cap' cs') rfl e2 e3 hh' λb hb=>by
  obtain⟨q1,q2⟩:=hb' b hb;exact⟨q1,q2⟩
 have hS:St N w0 v0 [] (.own ob' c.ty c.t.n z.length cap' cs' :: ℓ) v' a w':=hS;exact ZOl (hr.go e3.le (hS.drop (List.sublist_cons_self _ _))) hU hX hn hd hS hA' h
theorem Z7u {c:ConD} {fid:FuncId} (hI:Zug P fid c) (hr:RelX N G w0 v0 U X f l a w γ v ℓ) (hU:∀ k,U k→X k) (hX:X n) (hn:¬ U n) {o:Oper} {Post:Unit→Fr→Lo→Prop} (hd:∀ k,o.dst=some k→k<N) {ob:Option Nat} {cap:Nat} {cs:List Value} {xs:List c.t.den} {i j:Int} {z:List c.t.den}
  (hst:St N w0 v0 [] (.own ob c.ty c.t.n xs.length cap cs :: ℓ) v a w) (hA:c.t.rep.rels v cs xs) (hi:inR .i64 i) (hj:inR .i64 j) (hz:c.F xs i j=some z)
  (hent:ZB P fid→(execOp a.eval o).run P w = .ok (.enter fid #[.slice (mkA ob) xs.length cap,.int .i64 i,.int .i64 j]) w) (h:Zl n (Ev.new n (.own c.ty c.t z false) (ret o (.own n))) f l Post):Zsa P N G w0 v0 X o a w Post:=by
 obtain⟨hh,hb⟩:=hst.loc _ List.mem_cons_self;obtain⟨hen,hret⟩:=hI w v ob xs.length cap cs xs i j z hst.vin hh (λb e=>(hb b e).2) hA rfl hi hj hz;refine ZFc (hent hen) (Calls.mono hret λe w' ⟨r,v',e1,e2,e3,e4⟩=>⟨r,e1,?_⟩);obtain⟨ob',n',cap',cs',rfl,hh',hb',hA',hn'⟩:=e4;subst hn';have hS:=hst.afterI (i:=0) (e':=.own ob' c.ty c.t.n z.length cap' cs') rfl e2 e3 hh' λb hb=>by
  obtain⟨q1,q2⟩:=hb' b hb;exact⟨q1,q2⟩
 have hS:St N w0 v0 [] (.own ob' c.ty c.t.n z.length cap' cs' :: ℓ) v' a w':=hS;exact ZOl (hr.go e3.le (hS.drop (List.sublist_cons_self _ _))) hU hX hn hd hS hA' h
theorem Zhs {C:Cf} (hC:CfOK C) (hr:RelX N G w0 v0 U X f l a w γ v ℓ) (hU:∀ k,U k→X k) (hX:X n) (hn:¬ U n) {fid:FuncId} {c:V} {vals:List Value} {o:Oper} {Post:Unit→Fr→Lo→Prop} (hd:∀ k,o.dst=some k→k<N)
  (hent:ZB C.P fid→(execOp a.eval o).run C.P w = .ok (.enter fid vals.toArray) w) (hval:∀ y,(∀ w,(callFunc fid vals.toArray).run C.P w = .ok (.value y) w)→(execOp a.eval o).run C.P w = .ok (.value y) w)
  (hc:RR v γ l true c vals) (hk:c.ok U) (h:Zl n (ZEj C n o fid c) f l Post):Zsa C.P N G w0 v0 X o a w Post:=by
 unfold ZEj at h;split at h
 ·rename_i con hcon;obtain⟨p,l1,γ1,v1,ℓ1,h,r1,le1,q1⟩:=ZJe hn hX h hr hk;obtain⟨z,hz,h⟩:=h;have hR:=q1 _ hc;rcases hC.c fid con hcon w v1 _ p z r1.st.vin hR hz with ⟨hen,hret⟩ | ⟨y,hv,hres⟩
  ·refine ZFc (hent hen) (Calls.mono hret λe w' ⟨r,v',e1,e2,e3,e4⟩=>⟨r,e1,?_⟩);have r2:=r1.go e3.le (r1.st.step e2 e3);obtain⟨k1,k2⟩:=ZTk (γ:=γ1) (l:=l1) (U:=X) e4;unfold ret at h
   cases hdd:o.dst with
   | none=>rw[hdd]at h;exact h.elim
   | some dd =>
    rw[hdd]at h;exact⟨_,_,h,_,_,_,(r2.mono hU λ_ h=>h).put (hd dd hdd) k1 k2 hX⟩
  ·obtain⟨k1,k2⟩:=ZTk (γ:=γ1) (l:=l1) (U:=X) hres;exact ZQ r1 hU (hval y hv) hd hX k1 k2 h
 ·split at h
  ·rename_i con hcon;obtain⟨p,l1,γ1,v1,ℓ1,h,r1,le1,q1⟩:=ZJe hn hX h hr hk;obtain⟨z,hz,h⟩:=h;have hR:=q1 _ hc;obtain⟨hen,hret⟩:=hC.o fid con hcon w v1 _ p z r1.st.vin hR hz;refine ZFc (hent hen) (Calls.mono hret λe w' ⟨r,v',e1,e2,e3,e4⟩=>⟨r,e1,?_⟩);obtain⟨ob,n',cap,cs,rfl,hh,hb,hA,hn'⟩:=e4;subst hn';have h':=r1.st.step e2 e3;refine ZOl (r1.go e3.le h') hU hX hn hd (cs:=cs) ⟨h'.size,h'.dfr,h'.fr,h'.ext,h'.vst,λx hx=>?_,?_⟩ hA h
   ·rcases List.mem_cons.1 hx with rfl | hx
    ·exact⟨hh,λb eb=>⟨.inl (Nat.le_trans r1.st.ext.size (hb b eb).1),(hb b eb).2⟩⟩
    ·exact h'.loc x hx
   ·cases ob with
    | none=>rw[List.filterMap_cons_none (show (Loc.own none con.ty con.t.n z.length cap cs).blk=none from rfl)];exact h'.nd
    | some b =>
     rw[List.filterMap_cons_some (show (Loc.own (some b) con.ty con.t.n z.length cap cs).blk=some b from rfl)];refine List.nodup_cons.2 ⟨λhm=>?_,h'.nd⟩;obtain⟨x,hx,hxb⟩:=List.mem_filterMap.1 hm;obtain⟨c,T',hg⟩:=Loc.blk_get (r1.st.loc x hx).1 hxb;have h1:=Zqd hg;have h2:=(hb b rfl).1;omega
  ·split at h
   ·rename_i con hcon;have hI:=hC.i fid con hcon;unfold insE at h;split at h
    ·rename_i A i u2;obtain⟨cA,xs1,rfl,hA1,xs2,xs3,rfl,hI1,xs4,xs5,rfl,hU2,hnl⟩:=hc;have hnl:xs5=[]:=hnl;subst hnl;obtain⟨e2,he2,h⟩:=h;obtain⟨k2,st2,L2⟩:=e2;have hk2:k2=u2:=(Zt he2).2;subst hk2
     cases L2 with
     | own ty2 s2 l2 fz =>
      cases fz with
      | true=>exact h.elim
      | false =>
       simp only at h;split at h
       ·rename_i x hty hcast;have hty:=eQ hty;subst hty;obtain⟨c3,c4⟩:=Z2 hcast;obtain⟨es2,E2,g1,_,_,g3,r1⟩:=hr.del he2;obtain⟨ob2,cap2,cs2,g4,g5,rfl⟩:=g1;have g4:γ k2 = .own ob2 cap2:=g4;obtain⟨y2,rfl,_,hy2⟩:=hU2;obtain⟨ob2',cap2',g6,g7⟩:=hy2 _ he2;rw[g4]at g6;cases g6;have hst2:=hr.st.perm g3;obtain⟨hh2,hb2⟩:=hst2.loc _ List.mem_cons_self;have hc3:s2=con.t:=by injection c3
        subst hc3;have hl2:l2=[x]:=c4;subst hl2
        cases ob2 with
        | none=>obtain⟨q,_⟩:=hh2;cases q
        | some bv =>
         obtain⟨hl,cur,hg,hle,_,hcz,htk⟩:=hh2;obtain⟨v1,hv1,hv2,hst3⟩:=hst2.publish (i:=0) (ℓ':=E2.flatten) rfl rfl hg rfl;have r2:=r1.go hv1 hst3;have hx1:con.t.rep.rel v1 (cur.toList.take con.t.n) x:=by
          have hq:con.t.rep.rels v1 cs2 [x]:=ZR hv1 g5;obtain⟨d1,d2,e1,e2,e3⟩:=hq;have e3:d2=[]:=e3;subst e3;rw[List.append_nil]at e1;subst e1;have:cur.toList.take ([x].length*con.t.n)=cs2:=htk;rw[show [x].length*con.t.n=con.t.n by simp]at this;rw[this];exact e2
         have hi:inR .i64 i:=by obtain⟨_,q⟩:=hI1;exact q
         have hiv:(V.data (.int .i64) i).val xs2 = .int .i64 i:=by obtain⟨q,_⟩:=hI1;subst q;rfl
         have hle0:=Le.era hr k2;have lv:Le U v γ l v1 γ (era l k2):=hle0.trans (by obtain⟨EE,hEE,_⟩:=r1.lr;exact Le.refl hEE hv1)
         cases A with
         | own u =>
          simp only at h;obtain⟨e,he,h⟩:=h;obtain⟨k,st,L⟩:=e;have hkk:k=u:=(Zt he).2;subst hkk
          cases L with
          | own ty s xs fz =>
           cases fz with
           | true=>exact h.elim
           | false =>
            simp only at h;split at h
            ·rename_i l' hty hcast;have hty:=eQ hty;subst hty;obtain⟨c5,c6⟩:=Z2 hcast;have hc5:s=con.t:=by injection c5
             subst hc5;have hl':xs=l':=c6;subst hl';obtain⟨z,hz,h⟩:=h;obtain⟨es,E3,d1,_,_,d3,r3⟩:=r2.del he;obtain⟨ob,cap,cs,d4,d5,rfl⟩:=d1;have d4:γ k = .own ob cap:=d4;have hA2:=Zsb lv (x:=.own k) hk.1 hA1;obtain⟨y,rfl,_,hy⟩:=hA2;obtain⟨ob',cap',d6,d7⟩:=hy _ he;rw[d4]at d6;cases d6;refine ZYr hI r3 hU hX hn hd (hst3.perm d3) d5 (kv:=cap2) (by simpa using hle) hv2 hx1 hi hz (λhen=>?_) h;rw[hent hen,ZJf (x:=.own k) rfl,d7,hiv,ZJf (x:=.own k2) rfl,g7];rfl
            ·exact h.elim
          | box _ _=>exact h.elim
          | mid _ _ _ _ _ _=>exact h.elim
          | mat _ _ _ _ _=>exact h.elim
         | nilS =>
          simp only at h;obtain⟨z,hz,h⟩:=h;have hA1:cA=[.slice none 0 0]:=hA1;subst hA1;refine ZYr hI r2 hU hX hn hd (ob:=none) (cap:=0) (cs:=[]) (xs:=[]) (hst3.nilLoc con.ty con.t.n) rfl (kv:=cap2) (by simpa using hle) hv2 hx1 hi hz (λhen=>?_) h;rw[hent hen,hiv,ZJf (x:=.own k2) rfl,g7];rfl
         | _=>exact h.elim
       ·exact h.elim
     | box _ _=>exact h.elim
     | mid _ _ _ _ _ _=>exact h.elim
     | mat _ _ _ _ _=>exact h.elim
    ·exact h.elim
   ·split at h
    ·rename_i con hcon;obtain⟨p,l1,γ1,v1,ℓ1,h,r1,le1,q1⟩:=ZJe hn hX h hr hk;obtain⟨z,hz,h⟩:=h;have hR:=q1 _ hc;obtain⟨hen,hret⟩:=hC.q fid con hcon w v1 _ p z r1.st.vin hR hz;refine ZFc (hent hen) (Calls.mono hret λe w' ⟨r,v',e1,e2,e3,e4⟩=>⟨r,e1,?_⟩);obtain⟨ob,cap,rows,es,rfl,hA,hh,hb⟩:=e4;have h':=r1.st.step e2 e3;refine put_mat (r1.go e3.le h') hU hX hn hd (h'.addL r1.st.ext.size hh hb λx hx b hxb=>?_) hA h;obtain⟨c,T',hg⟩:=Loc.blk_get (r1.st.loc x hx).1 hxb;exact Zqd hg
    ·split at h
     ·rename_i con hcon;have hI:=hC.d fid con hcon;unfold delE at h;split at h
      ·rename_i u i j;obtain⟨cA,x1,rfl,hA,cI,x2,rfl,hI1,cJ,x3,rfl,hJ,hnl⟩:=hc;have hnl:x3=[]:=hnl;subst hnl;obtain⟨e,he,h⟩:=h;obtain⟨kk,st,L⟩:=e;have hkk:kk=u:=(Zt he).2;subst hkk
       cases L with
       | own ty s xs fz =>
        cases fz with
        | true=>exact h.elim
        | false =>
         simp only at h;split at h
         ·rename_i ys hty hcast;have hty:=eQ hty;subst hty;obtain⟨c5,c6⟩:=Z2 hcast;have hc5:s=con.t:=by injection c5
          subst hc5;have hl':xs=ys:=c6;subst hl';obtain⟨z,hz,h⟩:=h;obtain⟨es,E',h1,_,h2,h3,r1⟩:=hr.del he;obtain⟨ob,cap,cs,g1,g2,rfl⟩:=h1;have g1:γ kk = .own ob cap:=g1;obtain⟨y,rfl,_,hy⟩:=hA;obtain⟨ob',cap',g3,g4⟩:=hy _ he;rw[g1]at g3;cases g3;have hi:inR .i64 i:=by obtain⟨_,q⟩:=hI1;exact q
          have hiv:(V.data (.int .i64) i).val cI = .int .i64 i:=by obtain⟨q,_⟩:=hI1;subst q;rfl
          have hj:inR .i64 j:=by obtain⟨_,q⟩:=hJ;exact q
          have hjv:(V.data (.int .i64) j).val cJ = .int .i64 j:=by obtain⟨q,_⟩:=hJ;subst q;rfl
          refine Z7u hI r1 hU hX hn hd (hr.st.perm h3) g2 hi hj hz (λhen=>?_) h;rw[hent hen,ZJf (x:=.own kk) rfl,g4,hiv,hjv]
         ·exact h.elim
       | box _ _=>exact h.elim
       | mid _ _ _ _ _ _=>exact h.elim
       | mat _ _ _ _ _=>exact h.elim
      ·exact h.elim
     ·split at h
      ·rename_i con hcon;obtain⟨p,l1,γ1,v1,ℓ1,h,r1,le1,q1⟩:=ZJe hn hX h hr hk;obtain⟨z,hz,h⟩:=h;have hR:=q1 _ hc;obtain⟨hen,hret⟩:=hC.p fid con hcon w v1 _ p z r1.st.vin hR hz;refine ZFc (hent hen) (Calls.mono hret λe w' ⟨r,v',e1,e2,e3,e4⟩=>⟨r,e1,?_⟩);obtain⟨r0,rest,rfl,⟨ob,n',cap,cs,rfl,hh,hb,hA,hn'⟩,hrest⟩:=e4;subst hn';have h':=r1.st.step e2 e3;refine Zot (r1.go e3.le h') hU hX hn hd (cs:=cs) ⟨h'.size,h'.dfr,h'.fr,h'.ext,h'.vst,λx hx=>?_,?_⟩ hA hrest h
       ·rcases List.mem_cons.1 hx with rfl | hx
        ·exact⟨hh,λb eb=>⟨.inl (Nat.le_trans r1.st.ext.size (hb b eb).1),(hb b eb).2⟩⟩
        ·exact h'.loc x hx
       ·cases ob with
        | none=>rw[List.filterMap_cons_none (show (Loc.own none con.ty con.t.n z.1.length cap cs).blk=none from rfl)];exact h'.nd
        | some b =>
         rw[List.filterMap_cons_some (show (Loc.own (some b) con.ty con.t.n z.1.length cap cs).blk=some b from rfl)];refine List.nodup_cons.2 ⟨λhm=>?_,h'.nd⟩;obtain⟨x,hx,hxb⟩:=List.mem_filterMap.1 hm;obtain⟨c,T',hg⟩:=Loc.blk_get (r1.st.loc x hx).1 hxb;have h1:=Zqd hg;have h2:=(hb b rfl).1;omega
      ·exact h.elim
theorem Zkp:∀ {c:V} {i:Nat} {z:V} {vals:List Value},nthV c i=some z→RR v γ l true c vals→c.ok U→∃ y,vals[i]? = some y∧RV v γ l z y∧z.ok U
 | .cons x c,0,z,vals,h,hr,hk=>by
  cases h
  obtain⟨cs,xs,rfl,h1,h2⟩:=hr
  exact⟨_,rfl,Zrc h1 (λc e=>by subst e;exact h1),hk.1⟩
 | .cons x c,i+1,z,vals,h,hr,hk=>by
  obtain⟨cs,xs,rfl,h1,h2⟩:=hr
  obtain⟨y,k1,k2,k3⟩:=Zkp (c:=c) h h2 hk.2
  exact⟨y,by simpa using k1,k2,k3⟩
theorem ZKr {v:Zb} {a:T}:∀ {n:Nat} {x:(Zef a n).den} {cs:List Value},0<n→(Zef a n).rep.rel v cs x→a.rep.rels v cs (Z9d a n x)∧(Z9d a n x).length=n
 | 0,_,_,h,_=>by omega
 | 1,x,cs,_,h=>⟨ZXk h,rfl⟩
 | 2,x,cs,_,h=>by
  obtain⟨c1,c2,h1,h2,h3⟩:=h
  exact⟨⟨c1,c2,h1,h2,ZXk h3⟩,rfl⟩
 | k+3,x,cs,_,h=>by
  obtain⟨c1,c2,h1,h2,h3⟩:=h
  obtain⟨k1,k2⟩:=ZKr (n:=k+2) (by omega) h3
  exact⟨⟨c1,c2,h1,h2,k1⟩,by show (Z9d a (k+2) x.2).length+1=_;rw[k2]⟩
theorem RelX.slot (h:RelX N G w0 v0 U X f l a w γ v ℓ) {t m:Nat} {z:V} (hr:RV v γ l z (a.tmps.getD t undef)) (hk:z.ok U) (hX:X m):RelX N G w0 v0 U X (⟨t,m,z⟩ :: f) l a w γ v ℓ:=by
 refine⟨h.st,λt' e' he'=>?_,h.lr,h.nd,λt' e' he'=>?_,h.ul,h.gh⟩
 ·rw[ZS]at he';split at he'
  ·rename_i hk'
   cases he'
   have hk':t=t':=hk';rw[← hk'];exact hr
  ·exact h.fr t' e' he'
 ·rw[ZS]at he';split at he'
  ·cases he';exact⟨hk,hX⟩
  ·exact h.uf t' e' he'
theorem Zat {σ:List (Nat×Value)} (hS:St N w0 v0 σ ℓ v a w) {t e:TypeId} {n b:Nat} {i:TypeInfo} {x:Operand} (ht:P.underlying t=some (.array n e)) (hi:P.info? e=some i) (e1:ev σ x=some (.pointer (some ⟨b,0,none⟩))) :
  (execOp a.eval ⟨d,.slice t x none none none,ty,pos,aft,g⟩).run P w = .ok (.value (.slice (some ⟨b,0,none⟩) n n)) w:=by
 have h2:∀ w,(underlying t).run P w = .ok (.array n e) w:=λw=>run_underlying ht w;have h3:∀ w,(sizeOf e).run P w = .ok i.size w:=λw=>by simp[sizeOf,typeInfo,hi]
 by_cases hn:n=0
 ·subst hn;simp[execOp,Instr.sliceAt,Instr.sureAddr,hS.eval e1,h2,h3,Instr.sliceBounds,ZIa]
 ·simp[execOp,Instr.sliceAt,Instr.sureAddr,hS.eval e1,h2,h3,Instr.sliceBounds,ZIa]
theorem arrE_ok {C:Cf} (hr:RelX N G w0 v0 U X f l a w γ v ℓ) (hU:∀ k,U k→X k) (hX:X n) (hn:¬ U n) {t:TypeId} {s u off:Nat} {lo hi:Option Operand} {i j:Option Int} {o:Oper} {Post:Unit→Fr→Lo→Prop} (ho:o=⟨d,.slice t (.tmp s) lo hi none,ty,pos,aft,g⟩) (hd:∀ k,o.dst=some k→k<N) (hp:RV v γ l (.ptr u off) (a.eval (.tmp s))) (hk:U u)
  (hlo:(lo=none∧i=none) ∨ ∃ y κ q,lo=some y∧i=some q∧a.eval y = .int κ q) (hhi:(hi=none∧j=none) ∨ ∃ y κ q,hi=some y∧j=some q∧a.eval y = .int κ q) (h:Zl n (arrE C o t s u off i j) f l Post):Zsa C.P N G w0 v0 X o a w Post:=by
 unfold arrE at h;split at h
 ·rename_i m e h0 hu;have h0:=eQ h0;subst h0;have hlo:lo=none:=by
   rcases hlo with h1 | ⟨_,_,_,_,h1,_⟩
   ·exact h1.1
   ·cases h1
  have hhi:hi=none:=by
   rcases hhi with h1 | ⟨_,_,_,_,h1,_⟩
   ·exact h1.1
   ·cases h1
  subst hlo hhi;split at h
  ·rename_i α q hα hq hm0 hm1;have hm0:1≤m:=lB hm0;have hm1:=lB hm1;split at h
   ·obtain⟨⟨k0,st0,L⟩,he,h⟩:=h;have hkk:k0=u:=(Zt he).2;subst hkk
    cases L with
    | box ty0 c =>
     simp only at h;obtain⟨y,hy0,_,hy⟩:=Zja hp (λ_ e=>by cases e) rfl rfl;have hy0:a.eval (.tmp s)=y:=(List.cons.inj hy0).1;obtain⟨b,g1,rfl⟩:=hy _ he;obtain⟨es,E',h1,_,_,h3,_⟩:=hr.del he;obtain⟨b',cs,g2,g3,g4,rfl⟩:=h1;have g2:γ k0 = .box b':=g2;rw[g1]at g2;cases g2;obtain⟨x1,l1,γ1,v1,ℓ1,hB,r1,le1,q1⟩:=ZUd hn hX FU h hr (hr.ul _ (Zt he).1).2.2;obtain⟨⟨k1,st1,L1⟩,he1,hC⟩:=hB;have hkk1:k1=k0:=(Zt he1).2;subst hkk1
     cases L1 with
     | box ty1 c1 =>
      obtain⟨e0,he0,hce⟩:=le1.l _ _ hk he1;rw[he]at he0;cases he0;have hce:γ1 k1=γ k1:=hce;obtain⟨es1,E1,f1,_,_,f3,r2⟩:=r1.del he1;obtain⟨b1,cs1,f4,f5,f6,rfl⟩:=f1;have f4:γ1 k1 = .box b1:=f4;rw[hce,g1]at f4;cases f4;have m0:=(hr.st.loc _ (h3.mem_iff.2 (List.mem_append_left _ (List.mem_singleton.2 rfl)))).1;have m1:=(r1.st.loc _ (f3.mem_iff.2 (List.mem_append_left _ (List.mem_singleton.2 rfl)))).1;have m0:w.heap[b]? = some (.cells cs.toArray ty0 (0,0)):=m0;have m1:w.heap[b]? = some (.cells cs1.toArray ty1 (0,0)):=m1;rw[m0]at m1;have hcs:cs=cs1:=by
       have:=Option.some.inj m1
       injection this with h1 _ _
       have:=congrArg Array.toList h1
       simpa using this
      subst hcs;obtain⟨v',hv,hs1,hAt⟩:=(r1.st.perm f3).pubVar (i:=0) rfl rfl;have hs1:St N w0 v0 [] E1.flatten v' a w:=hs1;have r3:=r2.go hv hs1;have hrel:=Rep.mono _ hv (q1 _ g3);have r4:=r3.slot (t:=s) (m:=n) (z:=.vp (Zef α m) x1 0) ⟨[_],⟨b,0,cs,hAt,hrel,rfl⟩,hy0⟩ trivial hX;obtain⟨i0,hi0⟩:∃ i0,C.P.info? e=some i0:=by
       unfold szA at hq;split at hq
       ·rename_i i0 _ hi0 _;exact⟨i0,hi0⟩
       ·cases hq
      obtain⟨σ,hσ,e1⟩:=r4.st.ev1 (.tmp s);rw[hy0]at e1;obtain⟨k4,k5⟩:=ZKr (by omega) hrel;subst ho;refine ZQ r4 hU (Zat hσ hu hi0 e1) hd hX (x:=.data (.slice α) (Z9d α m x1)) ⟨[.slice (some ⟨b,0,none⟩) m m],?_,rfl⟩ trivial hC;obtain⟨c2,T2,fr2,hvb,htk⟩:=hAt;have hlen:=Zkd k4;rw[k5]at hlen;refine⟨some ⟨b,0,none⟩,m,by rw[show (Z9d α m x1).length=m from k5],by rw[show (Z9d α m x1).length=m from k5];exact Nat.le_refl _,by unfold maxLen;omega,.inr ⟨b,0,c2,T2,fr2,rfl,hvb,?_⟩⟩;rw[show (Z9d α m x1).length=m from k5,← hlen,htk];exact k4
     | own _ _ _ _=>exact hC.elim
     | mat _ _ _ _ _=>exact hC.elim
     | mid _ _ _ _ _ _=>exact hC.elim
    | own _ _ _ _=>exact h.elim
    | mat _ _ _ _ _=>exact h.elim
    | mid _ _ _ _ _ _=>exact h.elim
   ·exact h.elim
  ·exact h.elim
 ·exact h.elim
theorem RelX.dup (h:RelX N G w0 v0 U X f l a w γ v ℓ) {t:Nat} {e:En V} (he:lkE f t=some e):RelX N G w0 v0 U X (e :: f) l a w γ v ℓ:=by
 obtain⟨hm,hk⟩:=Zt he;have key:∀ t',lkE (e :: f) t'=lkE f t':=λt'=>by
  rw[ZS];split
  ·rename_i hk';rw[← hk',hk];exact he.symm
  ·rfl
 exact⟨h.st,λt' e' he'=>h.fr t' e' (by rw[← key];exact he'),h.lr,h.nd,λt' e' he'=>h.uf t' e' (by rw[← key];exact he'),h.ul,h.gh⟩
theorem run_mkI {σ:List (Nat×Value)} (hS:St N w0 v0 σ ℓ v a w) {t:TypeId} {x:Operand} {y:Value} {D:TypeDesc} (e:ev σ x=some y) (h:P.underlying t=some D) (hn:∀ q,some D≠some (.interface q)) :
  (execOp a.eval ⟨d,.makeInterface t x,ty,pos,aft,g⟩).run P w = .ok (.value (.iface t y)) w:=by
 have hx:=hS.eval e;have:(Instr.makeInterface t y).run P w = .ok (.iface t y) w:=by
  cases D with
  | interface q=>exact absurd rfl (hn q)
  | _=>simp[Instr.makeInterface,run_underlying h]
 simp[execOp,hx,this]
theorem Zxt {σ:List (Nat×Value)} (hS:St N w0 v0 σ ℓ v a w) {x y z u s t:Operand} {k:IntKind} {p q r p' q' r':Int} {ats:Array TypeId} (e:ev σ x=some (.int k p)) (e':ev σ y=some (.int k q)) (e2:ev σ z=some (.int k r)) (e3:ev σ u=some (.int k p')) (e4:ev σ s=some (.int k q')) (e5:ev σ t=some (.int k r')) :
  (execOp a.eval ⟨d,.call ⟨.builtin .max,#[x,y,z,u,s,t],ats⟩,ty,pos,aft,g⟩).run P w = .ok (.value (.int k (max (max (max (max (max p q) r) p') q') r'))) w:=by
 simp[execOp,resolve,invoke,builtin,Builtin.max_,hS.eval e,hS.eval e',hS.eval e2,hS.eval e3,hS.eval e4,hS.eval e5,ZSm]
theorem Zgr {C:Cf} (hr:RelX N G w0 v0 U X f l a w γ v ℓ) (hU:∀ k,U k→X k) (hX:X n) {t:TypeId} {x i:Operand} {o:Oper} {V1:V} {κ:IntKind} {j:Int} {Post:Unit→Fr→Lo→Prop} (ho:o=⟨d,.index t x i,ty,pos,aft,g⟩) (hd:∀ k,o.dst=some k→k<N) (h1:RV v γ l V1 (a.eval x)) (k1:V1.ok U)
  (e2:a.eval i = .int κ j) (hC':Zl n (ixV C o t V1 j) f l Post):Zsa C.P N G w0 v0 X o a w Post:=by
 subst ho;obtain⟨σ,hσ,ev1,ev2⟩:=hr.st.ev2 x i;rw[e2]at ev2;unfold ixV at hC';split at hC'
 ·rename_i m e ht;split at hC'
  ·rename_i q hq hag b0 b1;have b0:(0:Int)≤j:=by simpa using b0
   have b1:@LT.lt Int _ j (m:Int):=by simpa using b1
   split at hC'
   ·rename_i z hz;obtain⟨cs,hcs,hqe⟩:=ZKb h1 (λc e=>by subst e;cases hag);obtain⟨q1,q2,q3⟩:=Zao hq hz hcs k1 w;have hv:V1.val cs = .agg cs.toArray:=by unfold V.val;rw[hag]
    rw[hqe,hv]at ev1;refine ZQ hr hU (Zfv hσ ev1 ev2 ?_) hd hX (Zrc q2 (λc e=>by subst e;exact q2)) (V.ok.mono hU q3) hC';simp[Instr.index,asIntOf,run_underlying ht,b0,b1,(Zkf hq).size,q1]
   ·exact hC'.elim
  ·exact hC'.elim
 ·exact hC'.elim
theorem Zgv {C:Cf} (hr:RelX N G w0 v0 U X f l a w γ v ℓ) (hU:∀ k,U k→X k) (hX:X n) {t:TypeId} {x i:Operand} {o:Oper} {V1:V} {κ:IntKind} {j:Int} {Post:Unit→Fr→Lo→Prop} (ho:o=⟨d,.index t x i,ty,pos,aft,g⟩) (hd:∀ k,o.dst=some k→k<N) (h1:RV v γ l V1 (a.eval x)) (k1:V1.ok U)
  (e2:a.eval i = .int κ j):∀ {m k:Nat},Zl n (altsV C o t V1 j m k) f l Post→Zsa C.P N G w0 v0 X o a w Post:=by
 intro m
 induction m with
 | zero=>intro k h;exact h.elim
 | succ m ih =>
  intro k h;by_cases e:j=(k:Int)
  ·have h3:=h.1 (dTq e);rw[← e]at h3;exact Zgr hr hU hX ho hd h1 k1 e2 h3
  ·exact ih (h.2 (dFq e))
theorem Zsl {C:Cf} (hC:CfOK C) (hr:RelX N G w0 v0 U X f l a w γ v ℓ) (hU:∀ k,U k→X k) (hX:X n) (hn:¬ U n) {o:Oper} {Post:Unit→Fr→Lo→Prop} (hd:∀ k,o.dst=some k→k<N) (h:Zl n (Z1 C n o) f l Post):Zsa C.P N G w0 v0 X o a w Post:=by
 obtain⟨d,op,ty,pos,aft,g⟩:=o
 cases op with
 | move x =>
  simp only[Z1]at h;obtain⟨V1,h1,k1,hA⟩:=ZM hr h;obtain⟨σ,hσ,e1⟩:=hr.st.ev1 x;exact ZQ hr hU (ZH hσ e1) hd hX h1 (V.ok.mono hU k1) hA
 | assign x =>
  simp only[Z1]at h;split at h
  ·rename_i hx;have hx:x = .const (.pointer none):=by
    unfold ZWq at hx;split at hx
    ·rfl
    ·cases hx
   subst hx;obtain⟨h0,hA⟩:=h;have e0:Go.Eng.era (⟨n,n,LV.box 0 .undef⟩ :: l) n=l:=by
    simp only[era];rw[show Nat.beq n n=true from Nat.beq_refl n]
   have hA:Zl n (ret ⟨d,.assign (.const (.pointer none)),ty,pos,aft,g⟩ (.ptr n 0)) f (Go.Eng.era (⟨n,n,LV.box 0 .undef⟩ :: l) n) Post:=hA;rw[e0]at hA;obtain⟨σ,hσ,e1⟩:=hr.st.ev1 (.const (.pointer none));exact ZQ hr hU (ZJc hσ e1) hd hX (x:=.ptr n 0) ⟨[.pointer none],⟨_,rfl,rfl,λe he=>by rw[h0]at he;cases he⟩,rfl⟩ hX hA
  ·obtain⟨V1,h1,k1,hA⟩:=ZM hr h;obtain⟨σ,hσ,e1⟩:=hr.st.ev1 x;exact ZQ hr hU (ZJc hσ e1) hd hX h1 (V.ok.mono hU k1) hA
 | nilCheck x =>
  simp only[Z1]at h;obtain⟨V1,h1,k1,hA⟩:=ZM hr h;split at hA
  ·rename_i α y;obtain⟨cs,hcs,e0⟩:=h1;obtain⟨b,o',c,rfl,hat,hrel⟩:=(show (rPtr α.rep).rel v cs y from hcs);obtain⟨σ,hσ,e1⟩:=hr.st.ev1 x;rw[e0]at e1;have e1:ev σ x=some (.pointer (some ⟨b,o',none⟩)):=e1;have hrun:(execOp a.eval ⟨d,.nilCheck x,ty,pos,aft,g⟩).run C.P w = .ok (.value (.pointer (some ⟨b,o',none⟩))) w:=by simp[execOp,hσ.eval e1]
   exact ZQ hr hU hrun hd hX (x:=.vp α y 0) ⟨[_],⟨b,o',c,hat,hrel,rfl⟩,rfl⟩ trivial hA
  obtain⟨hB,b,o',e',_⟩:=ZYl h1 k1 hA;obtain⟨σ,hσ,e1⟩:=hr.st.ev1 x;rw[e']at e1 h1;have hrun:(execOp a.eval ⟨d,.nilCheck x,ty,pos,aft,g⟩).run C.P w = .ok (.value (.pointer (some ⟨b,o',none⟩))) w:=by simp[execOp,hσ.eval e1]
  exact ZQ hr hU hrun hd hX h1 (V.ok.mono hU k1) hB
 | extract x i =>
  simp only[Z1]at h;obtain⟨V1,h1,k1,hA⟩:=ZM hr h;split at hA
  ·rename_i c;split at hA
   ·rename_i z hz;obtain⟨vals,h2,h3⟩:=h1;obtain⟨y,q1,q2,q3⟩:=Zkp hz h2 k1;obtain⟨σ,hσ,e1⟩:=hr.st.ev1 x;rw[h3]at e1;exact ZQ hr hU (Zaa hσ e1 (by simpa using q1)) hd hX q2 (V.ok.mono hU q3) hA
   ·exact hA.elim
  ·exact hA.elim
 | alloc t =>
  simp only[Z1]at h;split at h
  ·rename_i z hz;obtain⟨y,cs,hy,hcells,hzz,hkz,hp⟩:=ZPk (v:=v) (γ:=γ) (l:=l) (U:=U) hz;refine Z4q hr hU hX hn hd hzz hkz hp ?_ h;have:=Zjg (a:=a) (w:=w) (d:=d) (ty:=ty) (pos:=pos) (aft:=aft) (g:=g) hy;rw[hcells]at this;exact this
  ·exact h.elim
 | box t x =>
  simp only[Z1]at h;obtain⟨V1,h1,k1,hA⟩:=ZM hr h;split at hA
  ·rename_i hfit;obtain⟨cs,hcs,hqe⟩:=ZKb h1 (Zdn hfit);obtain⟨hcells,hpl⟩:=Zaj hcs hfit;obtain⟨σ,hσ,e1⟩:=hr.st.ev1 x;rw[hqe]at e1;refine Z4q hr hU hX hn hd hcs k1 hpl ?_ hA;have:=ZQo (t:=t) (d:=d) (ty:=ty) (pos:=pos) (aft:=aft) (g:=g) (P:=C.P) hσ e1;rw[show (V1.val cs).cells=cs.toArray from hcells]at this;exact this
  ·exact hA.elim
 | load t x =>
  simp only[Z1]at h;obtain⟨V1,h1,k1,hA⟩:=ZM hr h;split at hA
  ·exact Z5w hr hU hX hn rfl hd h1 hA
  obtain⟨z,y,q1,q2,q3,hB⟩:=ldE_ok (d:=d) (ty:=ty) (pos:=pos) (aft:=aft) (g:=g) hr h1 k1 hA;exact ZQ hr hU q1 hd hX q2 (V.ok.mono hU q3) hB
 | store t x y =>
  simp only[Z1]at h
  cases d with
  | some d=>exact h.elim
  | none =>
   obtain⟨V1,h1,k1,hA⟩:=ZM hr h;obtain⟨V2,h2,k2,hB⟩:=ZM hr hA;exact stE_ok hr hU hX hn rfl h1 h2 k1 k2 hB
 | fieldAddr s x i =>
  simp only[Z1]at h;obtain⟨V1,h1,k1,hA⟩:=ZM hr h;obtain⟨z,y,q1,q2,q3,hB⟩:=fldE_ok (d:=d) (ty:=ty) (pos:=pos) (aft:=aft) (g:=g) hr h1 k1 hA;exact ZQ hr hU q1 hd hX q2 (V.ok.mono hU q3) hB
 | field s x i =>
  simp only[Z1]at h;obtain⟨V1,h1,k1,hA⟩:=ZM hr h;split at hA
  ·rename_i fd hfd hag;split at hA
   ·rename_i q hq;split at hA
    ·rename_i z hz;obtain⟨cs,hcs,hqe⟩:=ZKb h1 (λc e=>by subst e;cases hag);obtain⟨q1,q2,q3⟩:=Zao hq hz hcs k1 w;obtain⟨σ,hσ,e1⟩:=hr.st.ev1 x;have hv:V1.val cs = .agg cs.toArray:=by unfold V.val;rw[hag]
     rw[hqe,hv]at e1;refine ZQ hr hU (Z8u hσ e1 ?_) hd hX (Zrc q2 (λc e=>by subst e;exact q2)) (V.ok.mono hU q3) hA;unfold fldT at hfd;split at hfd
     ·rename_i fs hfs;have hfd':fs[i]? = some fd:=by rw[← Array.getElem?_toList];exact hfd
      simp[Instr.field,run_underlying hfs,hfd',asAgg,q1]
     ·cases hfd
    ·exact hA.elim
   ·exact hA.elim
  ·exact hA.elim
 | indexAddr t x i =>
  simp only[Z1]at h;obtain⟨V1,h1,k1,hA⟩:=ZM hr h;obtain⟨V2,h2,k2,hB⟩:=ZM hr hA;obtain⟨κ,j,rfl,hC'⟩:=Z5a hB;split at hC'
  ·unfold altE at hC';split at hC'
   ·exact alts_ok hr hU hX rfl hd h1 k1 (ZKa h2).1 hC'
   ·exact hC'.elim
  ·exact ixE_ok hr hU hX rfl hd h1 k1 (ZKa h2).1 hC'
 | index t x i =>
  simp only[Z1]at h;obtain⟨V1,h1,k1,hA⟩:=ZM hr h;obtain⟨V2,h2,k2,hB⟩:=ZM hr hA;obtain⟨κ,j,rfl,hC'⟩:=Z5a hB;obtain⟨e2,_⟩:=ZKa h2;obtain⟨σ,hσ,ev1,ev2⟩:=hr.st.ev2 x i;rw[e2]at ev2;split at hC'
  ·obtain⟨e1,_⟩:=Z7g h1;rw[e1]at ev1;split at hC'
   ·rename_i ht;obtain⟨y,hy,hC'⟩:=hC';exact ZQ hr hU (Z0x hσ ev1 ev2 ht hy) hd hX (ZLa (u8_inR y)) trivial hC'
   ·exact hC'.elim
  ·split at hC'
   ·unfold altvE at hC';split at hC'
    ·exact Zgv hr hU hX rfl hd h1 k1 e2 hC'
    ·exact hC'.elim
   ·exact Zgr hr hU hX rfl hd h1 k1 e2 hC'
 | binOp op t x y t' =>
  simp only[Z1]at h;obtain⟨V1,h1,k1,hA⟩:=ZM hr h;obtain⟨V2,h2,k2,hB⟩:=ZM hr hA;obtain⟨z,q,q1,q2,q3,hC'⟩:=binE_ok (d:=d) (ty:=ty) (pos:=pos) (aft:=aft) (g:=g) (t':=t') hr h1 h2 hB;exact ZQ hr hU q1 hd hX q2 (V.ok.mono hU q3) hC'
 | unOp u t x =>
  cases u with
  | not =>
   simp only[Z1]at h;obtain⟨V1,h1,k1,hA⟩:=ZM hr h;obtain⟨b,rfl,hB⟩:=Z2t hA;obtain⟨σ,hσ,e1⟩:=hr.st.ev1 x;rw[Zwf h1]at e1;exact ZQ hr hU (ZSq hσ e1) hd hX ZXc trivial hB
  | neg =>
   simp only[Z1]at h;obtain⟨V1,h1,k1,hA⟩:=ZM hr h;obtain⟨κ,i,rfl,hB⟩:=Z5a hA;obtain⟨σ,hσ,e1⟩:=hr.st.ev1 x;rw[(ZKa h1).1]at e1;exact ZQ hr hU (Zlm hσ e1) hd hX (ZLa (Zqb _ _)) trivial hB
  | _=>exact h.elim
 | convert s t x =>
  simp only[Z1]at h;obtain⟨V1,h1,k1,hA⟩:=ZM hr h;obtain⟨σ,hσ,e1⟩:=hr.st.ev1 x;split at hA
  ·rename_i κ i ds κ' hs ht;obtain⟨q1,q2⟩:=ZKa h1;rw[q1]at e1;have hcv:∀ w,(convert s t (.int κ i)).run C.P w = .ok (.int κ' (κ'.wrap i)) w:=λw=>by
    simp[convert,run_underlying hs,run_underlying ht,Conv.intToInt]
   split at hA
   ·rename_i hk;have hk:=Zsc hk;subst hk;refine ZQ hr hU (Zhd hσ e1 hcv) hd hX (x:=.data (.int κ) i) ?_ trivial hA;rw[Z0b q2];exact ZLa q2
   ·exact ZQ hr hU (Zhd hσ e1 hcv) hd hX (ZLa (Zqb _ _)) trivial hA
  ·rename_i hs ht;obtain⟨q1,q2⟩:=Z7g h1;rw[q1]at e1;exact ZQ hr hU (Zhd hσ e1 (λw=>by simp[convert,run_underlying hs,run_underlying ht])) hd hX (Z1i q2) trivial hA
  ·exact hA.elim
 | makeInterface t x =>
  simp only[Z1]at h;obtain⟨V1,h1,k1,hA⟩:=ZM hr h;split at hA
  ·rename_i hfit;split at hA
   ·exact hA.elim
   ·rename_i D hni hD;obtain⟨cs,hcs,hqe⟩:=ZKb h1 (Zdn hfit);obtain⟨σ,hσ,e1⟩:=hr.st.ev1 x;rw[hqe]at e1;refine ZQ hr hU (run_mkI hσ e1 hD λq e=>hni q (Option.some.inj e)) hd hX (x:=.ifc t V1) ⟨[_],⟨cs,hcs,rfl⟩,rfl⟩ (V.ok.mono hU k1) hA
   ·exact hA.elim
  ·exact hA.elim
 | makeFunc fn first cap =>
  cases fn with
  | func fi =>
   simp only[Z1]at h;split at h
   ·rename_i hfirst;obtain⟨c,h1,k1,hA⟩:=Zmf hr h;obtain⟨σ,hσ,hev⟩:=hr.st.evs cap.toList;have hargs:cap.toList.map (ev σ)=(cap.toList.map a.eval).map some:=by
     rw[List.map_map];exact List.map_congr_left λy hy=>hev y hy
    have hf:first = #[]:=by
     apply Array.ext';simpa using hfirst
    subst hf;exact ZQ hr hU (Zgt hσ _ hargs) hd hX (x:=.fn fi c) ⟨[_],⟨_,h1,rfl⟩,rfl⟩ (V.ok.mono hU k1) hA
   ·exact h.elim
  | _=>exact h.elim
 | makeSlice t x y=>exact Zmv hr hU hX hn rfl hd h
 | buildSlice t m ps=>exact Zpw hr hU hX hn rfl hd h
 | build t ps=>exact ZGv hr hU hX rfl hd h
 | slice t x lo hi mx =>
  cases mx with
  | some _=>exact h.elim
  | none =>
   simp only[Z1]at h;obtain⟨i,hA,hlo⟩:=ZAq hr h;obtain⟨j,hB,hhi⟩:=ZAq hr hA;obtain⟨V1,h1,k1,hC'⟩:=ZM hr hB;split at hC'
   ·rename_i u;obtain⟨en,he,hC'⟩:=hC';obtain⟨kk,st,L⟩:=en
    cases L with
    | own ty0 s xs fz =>
     obtain⟨ys,l1,γ1,v1,ℓ1,hD,r1,le1,q1⟩:=ZUd hn hX FU hC' hr k1;obtain⟨cs,hcs,hqe⟩:=ZKb h1 (λc e=>by cases e);have hrel:=q1 _ hcs;exact Zxj (p:=.data (.slice s) ys) r1 hU hX rfl hd ⟨cs,hrel,hqe⟩ hlo hhi hD
    | box _ _=>exact hC'.elim
    | mid _ _ _ _ _ _=>exact hC'.elim
    | mat _ _ _ _ _=>exact hC'.elim
   ·obtain⟨cs,hcs,hqe⟩:=Ztg h1;exact Zxj (p:=.data (.slice (.int .u64)) (Zd 18446744073709551616 _)) hr hU hX rfl hd ⟨cs,hcs,hqe⟩ hlo hhi hC'
   ·obtain⟨cs,hcs,hqe⟩:=Ztg h1;exact Zxj (p:=.data (.slice (.int .u32)) (Zd 4294967296 _)) hr hU hX rfl hd ⟨cs,hcs,hqe⟩ hlo hhi hC'
   ·split at hC'
    ·exact arrE_ok hr hU hX hn rfl hd h1 k1 hlo hhi hC'
    ·exact hC'.elim
   ·exact Zxj hr hU hX rfl hd h1 hlo hhi hC'
 | pick c x y =>
  cases c with
  | tmp c =>
   simp only[Z1]at h;obtain⟨s,b,hf,h1,h2⟩:=h;have hr':=RelX.dup hr hf;have hc:=Zwf (hr.fr c _ hf);obtain⟨σ,hσ,hev⟩:=hr.st.evs [.tmp c,x,y];have e0:=hev (.tmp c) (by simp);have e0:ev σ (.tmp c)=some (.bool b):=e0.trans (congrArg some hc);have ex:=hev x (by simp);have ey:=hev y (by simp)
   cases b with
   | true =>
    obtain⟨V1,q1,k1,hA⟩:=ZM hr' (h1 rfl);exact ZQ hr' hU (Zfc hσ e0 (by rw[iP rfl];exact ex)) hd hX q1 (V.ok.mono hU k1) hA
   | false =>
    obtain⟨V1,q1,k1,hA⟩:=ZM hr' (h2 rfl);exact ZQ hr' hU (Zfc hσ e0 (by rw[iN (by decide)];exact ey)) hd hX q1 (V.ok.mono hU k1) hA
  | _=>exact h.elim
 | call c =>
  obtain⟨callee,args,ats⟩:=c
  cases callee with
  | value x =>
   simp only[Z1]at h;obtain⟨V1,h1,k1,hA⟩:=ZM hr h;obtain⟨c,h2,k2,hB⟩:=Zmf hr hA;split at hB
   ·rename_i fi;obtain⟨cs,⟨vs,q1,rfl⟩,q3⟩:=h1;have q1:vs=[]:=q1;subst q1;have q3:a.eval x = .func (.func fi) #[] #[]:=q3;obtain⟨σ,hσ,hev⟩:=hr.st.evs (x :: args.toList);have hfx:=hev x (by simp);rw[q3]at hfx;have hargs:args.toList.map (ev σ)=(args.toList.map a.eval).map some:=by
     rw[List.map_map];exact List.map_congr_left λy hy=>hev y (by simp[hy])
    exact Zhs hC hr hU hX hn hd (λhen=>ZK hσ _ hen hfx hargs) (λy hv=>Zqc hσ _ hv hfx hargs) h2 k2 hB
   ·exact hB.elim
  | invoke r m =>
   simp only[Z1]at h;obtain⟨V1,h1,k1,hA⟩:=ZM hr h;obtain⟨c,h2,k2,hB⟩:=Zmf hr hA;split at hB
   ·rename_i t x;split at hB
    ·rename_i fi hfi;obtain⟨cs,⟨cc,q1,rfl⟩,q3⟩:=h1;have q3:a.eval r = .iface t (x.val cc):=q3;obtain⟨σ,hσ,hev⟩:=hr.st.evs (r :: args.toList);have hfx:=hev r (by simp);rw[q3]at hfx;have hargs:args.toList.map (ev σ)=(args.toList.map a.eval).map some:=by
      rw[List.map_map];exact List.map_congr_left λy hy=>hev y (by simp[hy])
     exact Zhs hC hr hU hX hn (c:=.cons x c) (vals:=x.val cc :: args.toList.map a.eval) hd (λhen=>ZFq hσ _ (λw=>hC.m t m fi hfi _ w) hfx hargs (hen _ w)) (λy hv=>ZFq hσ _ (λw=>hC.m t m fi hfi _ w) hfx hargs (by
      have:=hv w;exact this)) ⟨cc,_,rfl,q1,h2⟩ ⟨k1,k2⟩ hB
    ·exact hB.elim
   ·exact hB.elim
  | builtin b =>
   cases b with
   | len =>
    simp only[Z1]at h;split at h
    ·rename_i x t hx ht;have hx:args = #[x]:=by apply Array.ext';exact hx
     have ht:ats = #[t]:=by apply Array.ext';exact ht
     subst hx ht;obtain⟨V1,h1,k1,hA⟩:=ZM hr h;obtain⟨m,q1,q2,hB⟩:=lenE_ok (d:=d) (ty:=ty) (pos:=pos) (aft:=aft) (g:=g) hr h1 hA;exact ZQ hr hU q1 hd hX (ZLa q2) trivial hB
    ·exact h.elim
   | append =>
    simp only[Z1]at h;split at h
    ·rename_i x y t t' hx ht;split at h
     ·rename_i hb;have hb:=eQ hb;subst hb;have hx:args = #[x,y]:=by apply Array.ext';exact hx
      have ht:ats = #[t,t]:=by apply Array.ext';exact ht
      subst hx ht;obtain⟨V1,h1,k1,hA⟩:=ZM hr h;obtain⟨V2,h2,k2,hB⟩:=ZM hr hA;exact appE_ok hr hU hX hn rfl hd h1 h2 k1 k2 hB
     ·exact h.elim
    ·exact h.elim
   | max =>
    simp only[Z1]at h;split at h
    ·rename_i x y hx;have hx:args = #[x,y]:=by apply Array.ext';exact hx
     subst hx;obtain⟨V1,h1,k1,hA⟩:=ZM hr h;obtain⟨V2,h2,k2,hB⟩:=ZM hr hA;obtain⟨κ,i,rfl,hC'⟩:=Z5a hB;obtain⟨κ',j,rfl,hD⟩:=Z5a hC';split at hD
     ·rename_i hk;have hk:=Zsc hk;subst hk;obtain⟨e1,r1⟩:=ZKa h1;obtain⟨e2,r2⟩:=ZKa h2;obtain⟨σ,hσ,ev1,ev2⟩:=hr.st.ev2 x y;rw[e1]at ev1;rw[e2]at ev2;exact ZQ hr hU (run_max hσ ev1 ev2) hd hX (ZLa (ZPe r1 r2)) trivial hD
     ·exact hD.elim
    ·rename_i x y z hx;have hx:args = #[x,y,z]:=by apply Array.ext';exact hx
     subst hx;obtain⟨V1,h1,k1,hA⟩:=ZM hr h;obtain⟨V2,h2,k2,hB⟩:=ZM hr hA;obtain⟨V3,h3,k3,hB'⟩:=ZM hr hB;obtain⟨κ,i,rfl,hC'⟩:=Z5a hB';obtain⟨κ',j,rfl,hD⟩:=Z5a hC';obtain⟨κ'',q,rfl,hE⟩:=Z5a hD;split at hE
     ·rename_i hk hk2;have hk:=Zsc hk;subst hk;have hk2:=Zsc hk2;subst hk2;obtain⟨e1,r1⟩:=ZKa h1;obtain⟨e2,r2⟩:=ZKa h2;obtain⟨e3,r3⟩:=ZKa h3;obtain⟨σ,hσ,ev1,ev2,ev3⟩:=hr.st.ev3 x y z;rw[e1]at ev1;rw[e2]at ev2;rw[e3]at ev3;exact ZQ hr hU (Zdw hσ ev1 ev2 ev3) hd hX (ZLa (ZPe (ZPe r1 r2) r3)) trivial hE
     ·exact hE.elim
    ·rename_i x1 x2 x3 x4 x5 x6 hx;have hx:args = #[x1,x2,x3,x4,x5,x6]:=by apply Array.ext';exact hx
     subst hx;obtain⟨V1,h1,k1,hA⟩:=ZM hr h;obtain⟨V2,h2,k2,hA⟩:=ZM hr hA;obtain⟨V3,h3,k3,hA⟩:=ZM hr hA;obtain⟨V4,h4,k4,hA⟩:=ZM hr hA;obtain⟨V5,h5,k5,hA⟩:=ZM hr hA;obtain⟨V6,h6,k6,hA⟩:=ZM hr hA;obtain⟨κ,i1,rfl,hB1⟩:=Z5a hA;obtain⟨κ2,i2,rfl,hB2⟩:=Z5a hB1;obtain⟨κ3,i3,rfl,hB3⟩:=Z5a hB2;obtain⟨κ4,i4,rfl,hB4⟩:=Z5a hB3;obtain⟨κ5,i5,rfl,hB5⟩:=Z5a hB4;obtain⟨κ6,i6,rfl,hB6⟩:=Z5a hB5;split at hB6
     ·have g2:=Zsc (show kEq κ κ2=true by assumption)
      cases g2
      have g3:=Zsc (show kEq κ κ3=true by assumption)
      cases g3
      have g4:=Zsc (show kEq κ κ4=true by assumption)
      cases g4
      have g5:=Zsc (show kEq κ κ5=true by assumption)
      cases g5
      have g6:=Zsc (show kEq κ κ6=true by assumption)
      cases g6
      obtain⟨e1,r1⟩:=ZKa h1;obtain⟨e2,r2⟩:=ZKa h2;obtain⟨e3,r3⟩:=ZKa h3;obtain⟨e4,r4⟩:=ZKa h4;obtain⟨e5,r5⟩:=ZKa h5;obtain⟨e6,r6⟩:=ZKa h6;obtain⟨σ,hσ,ev1,ev2,ev3,ev4,ev5,ev6⟩:=hr.st.ev6 x1 x2 x3 x4 x5 x6;rw[e1]at ev1;rw[e2]at ev2;rw[e3]at ev3;rw[e4]at ev4;rw[e5]at ev5;rw[e6]at ev6;exact ZQ hr hU (Zxt hσ ev1 ev2 ev3 ev4 ev5 ev6) hd hX (ZLa (ZPe (ZPe (ZPe (ZPe (ZPe r1 r2) r3) r4) r5) r6)) trivial hB6
     ·exact hB6.elim
    ·exact h.elim
   | min =>
    simp only[Z1]at h;split at h
    ·rename_i x y hx;have hx:args = #[x,y]:=by apply Array.ext';exact hx
     subst hx;obtain⟨V1,h1,k1,hA⟩:=ZM hr h;obtain⟨V2,h2,k2,hB⟩:=ZM hr hA;obtain⟨κ,i,rfl,hC'⟩:=Z5a hB;obtain⟨κ',j,rfl,hD⟩:=Z5a hC';split at hD
     ·rename_i hk;have hk:=Zsc hk;subst hk;obtain⟨e1,r1⟩:=ZKa h1;obtain⟨e2,r2⟩:=ZKa h2;obtain⟨σ,hσ,ev1,ev2⟩:=hr.st.ev2 x y;rw[e1]at ev1;rw[e2]at ev2;exact ZQ hr hU (run_min hσ ev1 ev2) hd hX (ZLa (min_inR r1 r2)) trivial hD
     ·exact hD.elim
    ·exact h.elim
   | _=>exact h.elim
 | _=>exact h.elim
end
end Go.Eng
namespace Go.Eng
open Go.RowKit
def Old (m:Nat) (f:Fr) (l:Lo) (f':Fr) (l':Lo):Prop:=(∀ t e,lkE f' t=some e→e.st<m→lkE f t=some e)∧∀ u e,lkE l' u=some e→e.st<m→lkE l u=some e
theorem Old.refl {m:Nat} {f:Fr} {l:Lo}:Old m f l f l:=⟨λ_ _ h _=>h,λ_ _ h _=>h⟩
theorem Old.trans {m m':Nat} {f f' f'':Fr} {l l' l'':Lo} (h:Old m f l f' l') (k:Old m' f' l' f'' l'') (hm:m≤m'):Old m f l f'' l'' :=
 ⟨λt e he hs=>h.1 t e (k.1 t e he (by omega)) hs,λt e he hs=>h.2 t e (k.2 t e he (by omega)) hs⟩
theorem Old.mono {m m':Nat} {f f':Fr} {l l':Lo} (h:Old m' f l f' l') (hm:m≤m'):Old m f l f' l':=⟨λt e he hs=>h.1 t e he (by omega),λt e he hs=>h.2 t e he (by omega)⟩
theorem Old.put {m n:Nat} {f:Fr} {l:Lo} {d:Nat} {x:V} (h:m≤n):Old m f l (⟨d,n,x⟩ :: f) l:=by
 refine⟨λt e he hs=>?_,λ_ _ h _=>h⟩;rw[ZS]at he;split at he
 ·cases he;exact absurd hs (by show ¬ n<m;omega)
 ·exact he
theorem Old.dup {m:Nat} {f:Fr} {l:Lo} {t:Nat} {e:En V} (h:lkE f t=some e):Old m f l (e :: f) l:=by
 obtain⟨_,hk⟩:=Zt h;refine⟨λt' e' he _=>?_,λ_ _ h _=>h⟩;rw[ZS]at he;split at he
 ·rename_i hk';cases he;rw[← hk',hk];exact h
 ·exact he
theorem ZKh {ρ:Type} {n m:Nat} (hm:m≤n) {f0:Fr} {l0:Lo}:∀ {e:Ev ρ} {f:Fr} {l:Lo} {K:ρ→Fr→Lo→Prop},Old m f0 l0 f l→(l.map En.k).Nodup→Zl n e f l K→Zl n e f l λx f' l'=>K x f' l'∧Old m f0 l0 f' l':=by
 intro e;have wr:∀ {f:Fr} {l:Lo} {u:Nat} {L:LV},Old m f0 l0 f l→(l.map En.k).Nodup→Old m f0 l0 f (⟨u,n,L⟩ :: era l u)∧((⟨u,n,L⟩ :: era l u:Lo).map En.k).Nodup:=by
  intro f l u L ho hn;obtain⟨n1,n2⟩:=ZQb (t:=u) hn;refine⟨⟨ho.1,λk e he hs=>?_⟩,List.nodup_cons.2 ⟨n2,n1⟩⟩;rw[ZS]at he;split at he
  ·cases he;exact absurd hs (by show ¬ n<m;omega)
  ·rw[Zdc hn]at he;split at he
   ·cases he
   ·exact ho.2 k e he hs
 induction e with
 | fail=>intro f l K ho hn h;exact h
 | done x=>intro f l K ho hn h;exact⟨h,ho⟩
 | rdS t q ih=>intro f l K ho hn h;obtain⟨x,hx,h⟩:=h;exact⟨x,hx,ih _ ho hn h⟩
 | rdL u q ih=>intro f l K ho hn h;obtain⟨x,hx,h⟩:=h;exact⟨x,hx,ih _ _ ho hn h⟩
 | wrS t x e ih=>intro f l K ho hn h;exact ih (ho.trans (Old.put hm) (Nat.le_refl m)) hn h
 | wrL u L e ih=>intro f l K ho hn h;exact ih (wr ho hn).1 (wr ho hn).2 h
 | new u L e ih =>
  intro f l K ho hn h;refine⟨h.1,ih ⟨ho.1,λk e he hs=>?_⟩ (List.nodup_cons.2 ⟨ZCg h.1,hn⟩) h.2⟩;rw[ZS]at he;split at he
  ·cases he;exact absurd hs (by show ¬ n<m;omega)
  ·exact ho.2 k e he hs
 | del u e ih =>
  intro f l K ho hn h;refine ih ⟨ho.1,λk e he hs=>?_⟩ (ZQb hn).1 h;rw[Zdc hn]at he;split at he
  ·cases he
  ·exact ho.2 k e he hs
 | bind x q ih=>intro f l K ho hn h;obtain⟨x,hx,h⟩:=h;exact⟨x,hx,ih _ ho hn h⟩
 | test t e1 e2 i1 i2 =>
  intro f l K ho hn h;obtain⟨s,b,h1,h2,h3⟩:=h;have hd:=ho.trans (Old.dup (m:=m) (l:=l) h1) (Nat.le_refl m);exact⟨s,b,h1,λe=>i1 hd hn (h2 e),λe=>i2 hd hn (h3 e)⟩
 | alt b e1 e2 i1 i2=>intro f l K ho hn h;exact⟨λe=>i1 ho hn (h.1 e),λe=>i2 ho hn (h.2 e)⟩
section
variable {N:Nat} {G:V→Value→Prop} {w0:Base} {v0:Zb} {U X:Nat→Prop} {f:Fr} {l:Lo} {a:Act} {w:World} {γ:Nat→Gh} {v:Zb} {ℓ:List Loc} {n:Nat}
def GoodG (P:Program) (ops:Array Oper) (N:Nat) (G:V→Value→Prop) (w0:Base) (v0:Zb) (X:Nat→Prop) (o:Oper) (a:Act) (w:World) (Post:Unit→Fr→Lo→Prop):Prop :=
 (Region.wanted o (yielded ops a.tmps)=true∧Zsa P N G w0 v0 X o a w Post)∨(Region.wanted o (yielded ops a.tmps)=false∧∃ f' l',Post () f' l'∧Rel N G w0 v0 X f' l' (a.put o.dst undef) w)
theorem Zdk (hr:RelX N G w0 v0 U X f l a w γ v ℓ) (hU:∀ k,U k→X k) (hX:X n) {o:Oper} {Post:Unit→Fr→Lo→Prop} (hd:∀ k,o.dst=some k→k<N) (h:Zl n (ZOg o) f l Post):∃ f' l',Post () f' l'∧Rel N G w0 v0 X f' l' (a.put o.dst undef) w:=by
 unfold ZOg at h
 cases hdd:o.dst with
 | none=>rw[hdd]at h;exact⟨f,l,h,γ,v,ℓ,hr.mono hU λ_ h=>h⟩
 | some d=>rw[hdd]at h;exact⟨_,l,h,γ,v,ℓ,(hr.mono hU λ_ h=>h).put (hd d hdd) (x:=.undef) ⟨[undef],rfl,rfl⟩ trivial hX⟩
theorem Z1k {C:Cf} (hC:CfOK C) {ops:Array Oper} (hr:RelX N G w0 v0 U X f l a w γ v ℓ) (hU:∀ k,U k→X k) (hX:X n) (hn:¬ U n) {o:Oper} {Post:Unit→Fr→Lo→Prop} (hds:∀ o ∈ ops.toList,∀ k,o.dst=some k→k<N) (hd:∀ k,o.dst=some k→k<N)
  (h:Zl n (gop C ops.toList n o) f l Post):GoodG C.P ops N G w0 v0 X o a w Post:=by
 unfold gop at h;split at h
 ·rename_i hg;exact .inl ⟨ZVb hg,Zsl hC hr hU hX hn hd h⟩
 ·rename_i j want hg;split at h
  ·rename_i q hq;split at h
   ·rename_i t ht;have htN:t<N:=hds q (mG hq) t ht;have hgd:(ops[j]?).bind (·.dst)=some t:=by rw[← Array.getElem?_toList,hq];exact ht
    obtain⟨e,he,h⟩:=h;obtain⟨σ,hσ,hev⟩:=hr.st.evs [.tmp t];have hl:look σ t=some (a.tmps.getD t undef):=hev (.tmp t) (by simp);have hrv:=hr.fr t e he;obtain⟨ek,est,ex⟩:=e;have hk:ek=t:=(Zt he).2;subst hk
    cases ex with
    | undef =>
     obtain⟨cs,h1,h2⟩:=hrv;have h1:cs=[undef]:=h1;subst h1;have h2:a.tmps.getD ek undef=undef:=h2;rw[h2]at hl;exact .inr ⟨Zle hσ hg hgd hl htN,Zdk hr hU hX hd h⟩
    | data tt b =>
     cases tt with
     | bool =>
      have h2:=Zwf hrv;have h2:a.tmps.getD ek undef = .bool b:=h2;rw[h2]at hl
      cases want with
      | true =>
       obtain⟨s,b',h3,h4,h5⟩:=h;rw[he]at h3
       cases h3
       cases b with
       | true=>exact .inl ⟨ZKd hσ hg hgd hl htN,Zsl hC (RelX.dup hr he) hU hX hn hd (h4 rfl)⟩
       | false=>exact .inr ⟨Zph hσ hg hgd hl htN,Zdk (RelX.dup hr he) hU hX hd (h5 rfl)⟩
      | false =>
       obtain⟨s,b',h3,h4,h5⟩:=h;rw[he]at h3
       cases h3
       cases b with
       | true=>exact .inr ⟨Zph hσ hg hgd hl htN,Zdk (RelX.dup hr he) hU hX hd (h4 rfl)⟩
       | false=>exact .inl ⟨ZKd hσ hg hgd hl htN,Zsl hC (RelX.dup hr he) hU hX hn hd (h5 rfl)⟩
     | _=>exact h.elim
    | _=>exact h.elim
   ·exact h.elim
  ·exact h.elim
theorem GoodG.list {P:Program} {ops:Array Oper} {Q:Exit→Act→World→Prop} {o:Oper} {rest:List Oper} {Post:Unit→Fr→Lo→Prop} (h:GoodG P ops N G w0 v0 X o a w Post)
  (k:∀ f' l' a' w',Post () f' l'→Rel N G w0 v0 X f' l' a' w'→wpList P ops Q rest a' w'):wpList P ops Q (o :: rest) a w:=by
 rcases h with ⟨hw,hg⟩ | ⟨hw,f',l',h1,h2⟩
 ·exact ZDc hw (Ztm hg λx w' ⟨f',l',h1,h2⟩=>k f' l' _ w' h1 h2)
 ·unfold wpList;rw[iN (by rw[hw];decide)];exact k f' l' _ w h1 h2
end
end Go.Eng
namespace Go.Eng
open Go.RowKit
inductive Et where
 | rS (t:Nat) (e:En V)
 | rL (u:Nat) (e:En LV)
 | wS (e:En V)
 | dup (e:En V)
 | wL (e:En LV)
 | nL (e:En LV)
 | dL (u:Nat)
def okT:List Et→Fr→Lo→Prop
 | [],_,_=>True
 | .rS t e :: τ,f,l=>lkE f t=some e∧okT τ f l
 | .rL u e :: τ,f,l=>lkE l u=some e∧okT τ f l
 | .wS e :: τ,f,l=>okT τ (e :: f) l
 | .dup e :: τ,f,l=>lkE f e.k=some e∧okT τ (e :: f) l
 | .wL e :: τ,f,l=>okT τ f (e :: era l e.k)
 | .nL e :: τ,f,l=>lkE l e.k=none∧okT τ f (e :: l)
 | .dL u :: τ,f,l=>okT τ f (era l u)
def Zbc:List Et→Fr→Fr
 | [],f=>f
 | .wS e :: τ,f=>Zbc τ (e :: f)
 | .dup e :: τ,f=>Zbc τ (e :: f)
 | _ :: τ,f=>Zbc τ f
def Zcc:List Et→Lo→Lo
 | [],l=>l
 | .wL e :: τ,l=>Zcc τ (e :: era l e.k)
 | .nL e :: τ,l=>Zcc τ (e :: l)
 | .dL u :: τ,l=>Zcc τ (era l u)
 | _ :: τ,l=>Zcc τ l
def rdS:List Et→Nat→Prop
 | [],_=>False
 | .rS t _ :: τ,k=>k=t∨rdS τ k
 | .dup e :: τ,k=>k=e.k∨rdS τ k
 | _ :: τ,k=>rdS τ k
def rdL:List Et→Nat→Prop
 | [],_=>False
 | .rL u _ :: τ,k=>k=u∨rdL τ k
 | .nL e :: τ,k=>k=e.k∨rdL τ k
 | _ :: τ,k=>rdL τ k
def Zdb:List Et→Nat→Option (Option (En V))
 | [],_=>none
 | .wS e :: τ,t=>match Zdb τ t with
  | some z=>some z
  | none=>if e.k=t then some (some e) else none
 | _ :: τ,t=>Zdb τ t
def Zwa:List Et→Nat→Option (Option (En LV))
 | [],_=>none
 | .wL e :: τ,t=>match Zwa τ t with
  | some z=>some z
  | none=>if e.k=t then some (some e) else none
 | .nL e :: τ,t=>match Zwa τ t with
  | some z=>some z
  | none=>if e.k=t then some (some e) else none
 | .dL u :: τ,t=>match Zwa τ t with
  | some z=>some z
  | none=>if u=t then some none else none
 | _ :: τ,t=>Zwa τ t
def fpT:List Et→Fp→Fp
 | [],p=>p
 | .rS t _ :: τ,p=>fpT τ ⟨bit p.rs t,p.ws,p.rl,p.wl⟩
 | .rL u _ :: τ,p=>fpT τ ⟨p.rs,p.ws,bit p.rl u,p.wl⟩
 | .wS e :: τ,p=>fpT τ ⟨p.rs,bit p.ws e.k,p.rl,p.wl⟩
 | .dup e :: τ,p=>fpT τ ⟨bit p.rs e.k,p.ws,p.rl,p.wl⟩
 | .wL e :: τ,p=>fpT τ ⟨p.rs,p.ws,p.rl,bit p.wl e.k⟩
 | .nL e :: τ,p=>fpT τ ⟨p.rs,p.ws,bit p.rl e.k,bit p.wl e.k⟩
 | .dL u :: τ,p=>fpT τ ⟨p.rs,p.ws,p.rl,bit p.wl u⟩
def Tr {ρ:Type} (n:Nat):Ev ρ→List Et→ρ→Prop
 | .fail,_,_=>False
 | .done r,τ,x=>τ=[]∧x=r
 | .rdS t k,τ,x=>∃ e τ',τ = .rS t e :: τ'∧Tr n (k e.x) τ' x
 | .rdL u k,τ,x=>∃ e τ',τ = .rL u e :: τ'∧Tr n (k e.st e.x) τ' x
 | .wrS t v e,τ,x=>∃ τ',τ = .wS ⟨t,n,v⟩ :: τ'∧Tr n e τ' x
 | .wrL u L e,τ,x=>∃ τ',τ = .wL ⟨u,n,L⟩ :: τ'∧Tr n e τ' x
 | .new u L e,τ,x=>∃ τ',τ = .nL ⟨u,n,L⟩ :: τ'∧Tr n e τ' x
 | .del u e,τ,x=>∃ τ',τ = .dL u :: τ'∧Tr n e τ' x
 | .bind y k,τ,x=>∃ z,y=some z∧Tr n (k z) τ x
 | .test t e1 e2,τ,x=>∃ s b τ',τ = .dup ⟨t,s,.data .bool b⟩ :: τ'∧(b=true→Tr n e1 τ' x)∧(b=false→Tr n e2 τ' x)
 | .alt b e1 e2,τ,x=>(b=true→Tr n e1 τ x)∧(b=false→Tr n e2 τ x)
theorem Zmt {ρ α:Type} {n:Nat} {r:α}:∀ {e:Ev ρ} {f:Fr} {l:Lo} {p:Fp} {K:ρ→Fr→Lo→Fp→Option α},ZFb n e f l p K=some r→∃ x τ,Tr n e τ x∧okT τ f l∧K x (Zbc τ f) (Zcc τ l) (fpT τ p)=some r:=by
 intro e
 induction e with
 | fail=>intro f l p K h;cases h
 | done x=>intro f l p K h;exact⟨x,[],⟨rfl,rfl⟩,trivial,h⟩
 | rdS t k ih =>
  intro f l p K h;simp only[ZFb]at h;split at h
  ·rename_i e he;obtain⟨x,τ,h1,h2,h3⟩:=ih _ h;exact⟨x,.rS t e :: τ,⟨e,τ,rfl,h1⟩,⟨he,h2⟩,h3⟩
  ·cases h
 | rdL u k ih =>
  intro f l p K h;simp only[ZFb]at h;split at h
  ·rename_i e he;obtain⟨x,τ,h1,h2,h3⟩:=ih _ _ h;exact⟨x,.rL u e :: τ,⟨e,τ,rfl,h1⟩,⟨he,h2⟩,h3⟩
  ·cases h
 | wrS t v e ih=>intro f l p K h;obtain⟨x,τ,h1,h2,h3⟩:=ih h;exact⟨x,.wS ⟨t,n,v⟩ :: τ,⟨τ,rfl,h1⟩,h2,h3⟩
 | wrL u L e ih=>intro f l p K h;obtain⟨x,τ,h1,h2,h3⟩:=ih h;exact⟨x,.wL ⟨u,n,L⟩ :: τ,⟨τ,rfl,h1⟩,h2,h3⟩
 | new u L e ih =>
  intro f l p K h;simp only[ZFb]at h;split at h
  ·rename_i he;obtain⟨x,τ,h1,h2,h3⟩:=ih h;exact⟨x,.nL ⟨u,n,L⟩ :: τ,⟨τ,rfl,h1⟩,⟨he,h2⟩,h3⟩
  ·cases h
 | del u e ih=>intro f l p K h;obtain⟨x,τ,h1,h2,h3⟩:=ih h;exact⟨x,.dL u :: τ,⟨τ,rfl,h1⟩,h2,h3⟩
 | bind y k ih =>
  intro f l p K h;obtain⟨z,hz,h⟩:=Z3 h;obtain⟨x,τ,h1,h2,h3⟩:=ih _ h;exact⟨x,τ,⟨z,hz,h1⟩,h2,h3⟩
 | test t e1 e2 i1 i2 =>
  intro f l p K h;simp only[ZFb]at h;split at h
  ·rename_i k s b hx;obtain⟨_,hk⟩:=Zt hx;have hk:k=t:=hk;subst hk
   cases b with
   | true =>
    obtain⟨x,τ,h1,h2,h3⟩:=i1 h;exact⟨x,.dup ⟨k,s,.data .bool true⟩ :: τ,⟨s,true,τ,rfl,λ_=>h1,λe=>by cases e⟩,⟨hx,h2⟩,h3⟩
   | false =>
    obtain⟨x,τ,h1,h2,h3⟩:=i2 h;exact⟨x,.dup ⟨k,s,.data .bool false⟩ :: τ,⟨s,false,τ,rfl,(λe=>by cases e),λ_=>h1⟩,⟨hx,h2⟩,h3⟩
  ·cases h
 | alt b e1 e2 i1 i2 =>
  intro f l p K h
  cases b with
  | true =>
   obtain⟨x,τ,h1,h2,h3⟩:=i1 h;exact⟨x,τ,⟨λ_=>h1,λe=>by cases e⟩,h2,h3⟩
  | false =>
   obtain⟨x,τ,h1,h2,h3⟩:=i2 h;exact⟨x,τ,⟨(λe=>by cases e),λ_=>h1⟩,h2,h3⟩
theorem Zel {ρ:Type} {n:Nat}:∀ {e:Ev ρ} {τ:List Et} {x:ρ} {f:Fr} {l:Lo},Tr n e τ x→okT τ f l→Zl n e f l λx' f' l'=>x'=x∧f'=Zbc τ f∧l'=Zcc τ l:=by
 intro e
 induction e with
 | fail=>intro τ x f l h k;exact h
 | done r=>intro τ x f l h k;obtain⟨rfl,rfl⟩:=h;exact⟨rfl,rfl,rfl⟩
 | rdS t q ih=>intro τ x f l h k;obtain⟨e,τ',rfl,h⟩:=h;exact⟨e,k.1,ih _ (τ:=τ') h k.2⟩
 | rdL u q ih=>intro τ x f l h k;obtain⟨e,τ',rfl,h⟩:=h;exact⟨e,k.1,ih _ _ (τ:=τ') h k.2⟩
 | wrS t v e ih=>intro τ x f l h k;obtain⟨τ',rfl,h⟩:=h;exact ih (τ:=τ') h k
 | wrL u L e ih=>intro τ x f l h k;obtain⟨τ',rfl,h⟩:=h;exact ih (τ:=τ') h k
 | new u L e ih=>intro τ x f l h k;obtain⟨τ',rfl,h⟩:=h;exact⟨k.1,ih (τ:=τ') h k.2⟩
 | del u e ih=>intro τ x f l h k;obtain⟨τ',rfl,h⟩:=h;exact ih (τ:=τ') h k
 | bind y q ih=>intro τ x f l h k;obtain⟨z,hz,h⟩:=h;exact⟨z,hz,ih _ h k⟩
 | test t e1 e2 i1 i2=>intro τ x f l h k;obtain⟨s,b,τ',rfl,h1,h2⟩:=h;exact⟨s,b,k.1,λe=>i1 (τ:=τ') (h1 e) k.2,λe=>i2 (τ:=τ') (h2 e) k.2⟩
 | alt b e1 e2 i1 i2=>intro τ x f l h k;exact⟨λe=>i1 (h.1 e) k,λe=>i2 (h.2 e) k⟩
theorem Z1c:∀ {τ:List Et} {f:Fr} {l:Lo} {t:Nat},okT τ f l→lkE (Zbc τ f) t=(Zdb τ t).getD (lkE f t)
 | [],_,_,_,_=>rfl
 | .rS _ _ :: τ,_,_,_,h=>Z1c (τ:=τ) h.2
 | .rL _ _ :: τ,_,_,_,h=>Z1c (τ:=τ) h.2
 | .wL _ :: τ,_,_,_,h=>Z1c (τ:=τ) h
 | .nL _ :: τ,_,_,_,h=>Z1c (τ:=τ) h.2
 | .dL _ :: τ,_,_,_,h=>Z1c (τ:=τ) h
 | .wS e :: τ,f,l,t,h=>by
  have:=Z1c (t:=t) (show okT τ (e :: f) l from h)
  simp only[Zbc,Zdb]
  rw[this,ZS]
  cases Zdb τ t with
  | some z=>rfl
  | none=>by_cases h:e.k=t <;> simp[h]
 | .dup e :: τ,f,l,t,h=>by
  have:=Z1c (t:=t) (show okT τ (e :: f) l from h.2)
  simp only[Zbc,Zdb]
  rw[this,ZS]
  congr 1
  by_cases hk:e.k=t
  ·rw[iP hk,← hk,h.1]
  ·rw[iN hk]
theorem ZKc:∀ {τ:List Et} {f:Fr} {l:Lo},(l.map En.k).Nodup→okT τ f l→((Zcc τ l).map En.k).Nodup∧∀ t,lkE (Zcc τ l) t=(Zwa τ t).getD (lkE l t)
 | [],_,_,hn,_=>⟨hn,λ_=>rfl⟩
 | .rS _ _ :: τ,_,_,hn,h=>ZKc (τ:=τ) hn h.2
 | .rL _ _ :: τ,_,_,hn,h=>ZKc (τ:=τ) hn h.2
 | .wS _ :: τ,_,_,hn,h=>ZKc (τ:=τ) hn h
 | .dup _ :: τ,_,_,hn,h=>ZKc (τ:=τ) hn h.2
 | .wL e :: τ,f,l,hn,h=>by
  obtain⟨n1,n2⟩:=ZQb (t:=e.k) hn
  obtain⟨k1,k2⟩:=ZKc (τ:=τ) (l:=e :: era l e.k) (List.nodup_cons.2 ⟨n2,n1⟩) h
  refine⟨k1,λt=>(k2 t).trans ?_⟩
  simp only[Zwa]
  rw[ZS,Zdc hn]
  cases Zwa τ t with
  | some z=>rfl
  | none=>by_cases hk:e.k=t <;> simp[hk]
 | .nL e :: τ,f,l,hn,h=>by
  obtain⟨k1,k2⟩:=ZKc (τ:=τ) (l:=e :: l) (List.nodup_cons.2 ⟨ZCg h.1,hn⟩) h.2
  refine⟨k1,λt=>(k2 t).trans ?_⟩
  simp only[Zwa]
  rw[ZS]
  cases Zwa τ t with
  | some z=>rfl
  | none=>by_cases hk:e.k=t <;> simp[hk]
 | .dL u :: τ,f,l,hn,h=>by
  obtain⟨k1,k2⟩:=ZKc (τ:=τ) (l:=era l u) (ZQb hn).1 h
  refine⟨k1,λt=>(k2 t).trans ?_⟩
  simp only[Zwa]
  rw[Zdc hn]
  cases Zwa τ t with
  | some z=>rfl
  | none=>by_cases hk:u=t <;> simp[hk]
theorem Zre:∀ {τ:List Et} {f f2:Fr} {l l2:Lo},(l.map En.k).Nodup→(l2.map En.k).Nodup→okT τ f l→(∀ t,rdS τ t→lkE f t=lkE f2 t)→(∀ u,rdL τ u→lkE l u=lkE l2 u)→okT τ f2 l2
 | [],_,_,_,_,_,_,_,_,_=>trivial
 | .rS t e :: τ,_,_,_,_,n1,n2,h,k1,k2=>⟨(k1 t (.inl rfl)).symm.trans h.1,Zre n1 n2 h.2 (λt ht=>k1 t (.inr ht)) k2⟩
 | .rL u e :: τ,_,_,_,_,n1,n2,h,k1,k2=>⟨(k2 u (.inl rfl)).symm.trans h.1,Zre n1 n2 h.2 k1 λu hu=>k2 u (.inr hu)⟩
 | .wS e :: τ,f,f2,_,_,n1,n2,h,k1,k2=>Zre (τ:=τ) n1 n2 h (λt ht=>by
   rw[ZS,ZS]
   by_cases hk:e.k=t
   ·rw[iP hk,iP hk]
   ·rw[iN hk,iN hk];exact k1 t ht) k2
 | .dup e :: τ,f,f2,_,_,n1,n2,h,k1,k2=>⟨(k1 e.k (.inl rfl)).symm.trans h.1,Zre (τ:=τ) n1 n2 h.2 (λt ht=>by
   rw[ZS,ZS]
   by_cases hk:e.k=t
   ·rw[iP hk,iP hk]
   ·rw[iN hk,iN hk];exact k1 t (.inr ht)) k2⟩
 | .wL e :: τ,_,_,l,l2,n1,n2,h,k1,k2=>by
  obtain⟨a1,a2⟩:=ZQb (t:=e.k) n1
  obtain⟨b1,b2⟩:=ZQb (t:=e.k) n2
  refine Zre (τ:=τ) (l:=e :: era l e.k) (l2:=e :: era l2 e.k) (List.nodup_cons.2 ⟨a2,a1⟩) (List.nodup_cons.2 ⟨b2,b1⟩) h k1 λu hu=>?_
  rw[ZS,ZS]
  by_cases hk:e.k=u
  ·rw[iP hk,iP hk]
  ·rw[iN hk,iN hk,Zdc n1,Zdc n2,iN hk,iN hk];exact k2 u hu
 | .nL e :: τ,_,_,l,l2,n1,n2,h,k1,k2=>by
  have he:lkE l2 e.k=none:=(k2 e.k (.inl rfl)).symm.trans h.1
  refine⟨he,Zre (τ:=τ) (l:=e :: l) (l2:=e :: l2) (List.nodup_cons.2 ⟨ZCg h.1,n1⟩) (List.nodup_cons.2 ⟨ZCg he,n2⟩) h.2 k1 λu hu=>?_⟩
  rw[ZS,ZS]
  by_cases hk:e.k=u
  ·rw[iP hk,iP hk]
  ·rw[iN hk,iN hk];exact k2 u (.inr hu)
 | .dL u :: τ,_,_,l,l2,n1,n2,h,k1,k2=>by
  refine Zre (τ:=τ) (ZQb n1).1 (ZQb n2).1 h k1 λk hk=>?_
  rw[Zdc n1,Zdc n2]
  by_cases e:u=k
  ·rw[iP e,iP e]
  ·rw[iN e,iN e];exact k2 k hk
theorem Z4e {m k:Nat}:(bit m k).testBit k=true:=by
 show (m ||| 2^k).testBit k=true;rw[Nat.testBit_or,Nat.testBit_two_pow_self,Bool.or_true]
theorem ZGe {m k t:Nat} (h:m.testBit t=true):(bit m k).testBit t=true:=by
 show (m ||| 2^k).testBit t=true;rw[Nat.testBit_or,h,Bool.true_or]
structure Fp.le (p q:Fp):Prop where
 rs:∀ t,p.rs.testBit t=true→q.rs.testBit t=true
 ws:∀ t,p.ws.testBit t=true→q.ws.testBit t=true
 rl:∀ t,p.rl.testBit t=true→q.rl.testBit t=true
 wl:∀ t,p.wl.testBit t=true→q.wl.testBit t=true
theorem Fp.le.trans {p q r:Fp} (h:p.le q) (k:q.le r):p.le r:=⟨λt e=>k.rs t (h.rs t e),λt e=>k.ws t (h.ws t e),λt e=>k.rl t (h.rl t e),λt e=>k.wl t (h.wl t e)⟩
theorem Z4b:∀ {τ:List Et} {p:Fp},p.le (fpT τ p)
 | [],_=>⟨λ_ h=>h,λ_ h=>h,λ_ h=>h,λ_ h=>h⟩
 | .rS t _ :: τ,p=>Fp.le.trans (q:=⟨bit p.rs t,p.ws,p.rl,p.wl⟩) ⟨λ_ h=>ZGe h,λ_ h=>h,λ_ h=>h,λ_ h=>h⟩ (Z4b (τ:=τ))
 | .rL u _ :: τ,p=>Fp.le.trans (q:=⟨p.rs,p.ws,bit p.rl u,p.wl⟩) ⟨λ_ h=>h,λ_ h=>h,λ_ h=>ZGe h,λ_ h=>h⟩ (Z4b (τ:=τ))
 | .wS e :: τ,p=>Fp.le.trans (q:=⟨p.rs,bit p.ws e.k,p.rl,p.wl⟩) ⟨λ_ h=>h,λ_ h=>ZGe h,λ_ h=>h,λ_ h=>h⟩ (Z4b (τ:=τ))
 | .dup e :: τ,p=>Fp.le.trans (q:=⟨bit p.rs e.k,p.ws,p.rl,p.wl⟩) ⟨λ_ h=>ZGe h,λ_ h=>h,λ_ h=>h,λ_ h=>h⟩ (Z4b (τ:=τ))
 | .wL e :: τ,p=>Fp.le.trans (q:=⟨p.rs,p.ws,p.rl,bit p.wl e.k⟩) ⟨λ_ h=>h,λ_ h=>h,λ_ h=>h,λ_ h=>ZGe h⟩ (Z4b (τ:=τ))
 | .nL e :: τ,p=>Fp.le.trans (q:=⟨p.rs,p.ws,bit p.rl e.k,bit p.wl e.k⟩) ⟨λ_ h=>h,λ_ h=>h,λ_ h=>ZGe h,λ_ h=>ZGe h⟩ (Z4b (τ:=τ))
 | .dL u :: τ,p=>Fp.le.trans (q:=⟨p.rs,p.ws,p.rl,bit p.wl u⟩) ⟨λ_ h=>h,λ_ h=>h,λ_ h=>h,λ_ h=>ZGe h⟩ (Z4b (τ:=τ))
theorem Zue:∀ {τ:List Et} {p:Fp} {t:Nat},rdS τ t→(fpT τ p).rs.testBit t=true
 | .rS t _ :: τ,_,_,.inl e=>by subst e;exact (Z4b (τ:=τ)).rs _ Z4e
 | .dup _ :: τ,_,_,.inl e=>by subst e;exact (Z4b (τ:=τ)).rs _ Z4e
 | .rS t _ :: τ,_,_,.inr h=>Zue (τ:=τ) h
 | .dup _ :: τ,_,_,.inr h=>Zue (τ:=τ) h
 | .rL _ _ :: τ,_,_,h=>Zue (τ:=τ) h
 | .wS _ :: τ,_,_,h=>Zue (τ:=τ) h
 | .wL _ :: τ,_,_,h=>Zue (τ:=τ) h
 | .nL _ :: τ,_,_,h=>Zue (τ:=τ) h
 | .dL _ :: τ,_,_,h=>Zue (τ:=τ) h
theorem ZZd:∀ {τ:List Et} {p:Fp} {t:Nat},rdL τ t→(fpT τ p).rl.testBit t=true
 | .rL t _ :: τ,_,_,.inl e=>by subst e;exact (Z4b (τ:=τ)).rl _ Z4e
 | .nL _ :: τ,_,_,.inl e=>by subst e;exact (Z4b (τ:=τ)).rl _ Z4e
 | .rL t _ :: τ,_,_,.inr h=>ZZd (τ:=τ) h
 | .nL _ :: τ,_,_,.inr h=>ZZd (τ:=τ) h
 | .rS _ _ :: τ,_,_,h=>ZZd (τ:=τ) h
 | .wS _ :: τ,_,_,h=>ZZd (τ:=τ) h
 | .dup _ :: τ,_,_,h=>ZZd (τ:=τ) h
 | .wL _ :: τ,_,_,h=>ZZd (τ:=τ) h
 | .dL _ :: τ,_,_,h=>ZZd (τ:=τ) h
theorem Znd:∀ {τ:List Et} {p:Fp} {t:Nat},Zdb τ t≠none→(fpT τ p).ws.testBit t=true
 | [],_,_,h=>absurd rfl h
 | .wS e :: τ,_,t,h=>by
  by_cases hk:e.k=t
  ·subst hk;exact (Z4b (τ:=τ)).ws _ Z4e
  ·refine Znd (τ:=τ) λh0=>h ?_
   simp only[Zdb,h0,iN hk]
 | .rS _ _ :: τ,_,_,h=>Znd (τ:=τ) h
 | .rL _ _ :: τ,_,_,h=>Znd (τ:=τ) h
 | .dup _ :: τ,_,_,h=>Znd (τ:=τ) h
 | .wL _ :: τ,_,_,h=>Znd (τ:=τ) h
 | .nL _ :: τ,_,_,h=>Znd (τ:=τ) h
 | .dL _ :: τ,_,_,h=>Znd (τ:=τ) h
theorem Zgd:∀ {τ:List Et} {p:Fp} {t:Nat},Zwa τ t≠none→(fpT τ p).wl.testBit t=true
 | [],_,_,h=>absurd rfl h
 | .wL e :: τ,_,t,h=>by
  by_cases hk:e.k=t
  ·subst hk;exact (Z4b (τ:=τ)).wl _ Z4e
  ·refine Zgd (τ:=τ) λh0=>h ?_
   simp only[Zwa,h0,iN hk]
 | .nL e :: τ,_,t,h=>by
  by_cases hk:e.k=t
  ·subst hk;exact (Z4b (τ:=τ)).wl _ Z4e
  ·refine Zgd (τ:=τ) λh0=>h ?_
   simp only[Zwa,h0,iN hk]
 | .dL u :: τ,_,t,h=>by
  by_cases hk:u=t
  ·subst hk;exact (Z4b (τ:=τ)).wl _ Z4e
  ·refine Zgd (τ:=τ) λh0=>h ?_
   simp only[Zwa,h0,iN hk]
 | .rS _ _ :: τ,_,_,h=>Zgd (τ:=τ) h
 | .rL _ _ :: τ,_,_,h=>Zgd (τ:=τ) h
 | .wS _ :: τ,_,_,h=>Zgd (τ:=τ) h
 | .dup _ :: τ,_,_,h=>Zgd (τ:=τ) h
theorem Z9f {a b t:Nat} (h:Nat.land a b=0) (ha:a.testBit t=true) (hb:b.testBit t=true):False:=by
 have:(a &&& b).testBit t=true:=by rw[Nat.testBit_and,ha,hb];rfl
 rw[show (a &&& b)=0 from h]at this;simp at this
theorem Zym {a b:Nat} (h:Nat.lor a b=0):a=0∧b=0:=by
 have h:a ||| b=0:=h;exact Nat.or_eq_zero_iff.1 h
theorem Z5i {a b t:Nat} (h:a.testBit t=true∨b.testBit t=true):(Nat.lor a b).testBit t=true:=by
 show (a ||| b).testBit t=true;rw[Nat.testBit_or];rcases h with h | h <;> simp[h]
structure Apart (τ σ:List Et):Prop where
 s1:∀ t,Zdb τ t≠none→rdS σ t→False
 s2:∀ t,Zdb τ t≠none→Zdb σ t≠none→False
 s3:∀ t,rdS τ t→Zdb σ t≠none→False
 l1:∀ t,Zwa τ t≠none→rdL σ t→False
 l2:∀ t,Zwa τ t≠none→Zwa σ t≠none→False
 l3:∀ t,rdL τ t→Zwa σ t≠none→False
theorem Zwq {τ σ:List Et} {p q:Fp} (h:(fpT τ p).free (fpT σ q)=true):Apart τ σ:=by
 have h:=eQ h;obtain⟨h1,h2⟩:=Zym h;obtain⟨h3,h4⟩:=Zym h1;obtain⟨h5,h6⟩:=Zym h2;exact⟨λt a b=>Z9f h3 (Znd a) (Z5i (.inl (Zue b))),λt a b=>Z9f h3 (Znd a) (Z5i (.inr (Znd b))),λt a b=>Z9f h4 (Zue a) (Znd b),
  λt a b=>Z9f h5 (Zgd a) (Z5i (.inl (ZZd b))),λt a b=>Z9f h5 (Zgd a) (Z5i (.inr (Zgd b))),λt a b=>Z9f h6 (ZZd a) (Zgd b)⟩
def ZKe:List (List Et)→Fr→Fr
 | [],f=>f
 | τ :: r,f=>ZKe r (Zbc τ f)
def Z4d:List (List Et)→Lo→Lo
 | [],l=>l
 | τ :: r,l=>Z4d r (Zcc τ l)
def okTs:List (List Et)→Fr→Lo→Prop
 | [],_,_=>True
 | τ :: r,f,l=>okT τ f l∧okTs r (Zbc τ f) (Zcc τ l)
def Zza {β:Type} (eff:List Et→Nat→Option β) (sel:Nat→Bool):List (List Et)→Nat→β→Nat→β
 | [],_,acc,_=>acc
 | τ :: r,i,acc,t=>Zza eff sel r (i+1) (if sel i then (eff τ t).getD acc else acc) t
section
variable {β:Type} {eff:List Et→Nat→Option β}
theorem Zke {sel sel':Nat→Bool} {t:Nat}:∀ {Ts:List (List Et)} {i:Nat} {acc:β},(∀ j τ,Ts[j]? = some τ→eff τ t≠none→sel (i+j)=sel' (i+j))→Zza eff sel Ts i acc t=Zza eff sel' Ts i acc t
 | [],_,_,_=>rfl
 | τ :: r,i,acc,h=>by
  have h1:(if sel i then (eff τ t).getD acc else acc)=(if sel' i then (eff τ t).getD acc else acc):=by
   cases he:eff τ t with
   | none=>simp
   | some z =>
    have:=h 0 τ rfl (by rw[he];exact λe=>by cases e);rw[Nat.add_zero]at this;rw[this]
  simp only[Zza];rw[h1];exact Zke λj σ hj hs=>by have:=h (j+1) σ hj hs;rwa [← Nat.add_assoc,Nat.add_right_comm]at this
theorem ZNe {sel:Nat→Bool} {t:Nat}:∀ {Ts:List (List Et)} {i:Nat} {acc:β},(∀ j τ,Ts[j]? = some τ→sel (i+j)=true→eff τ t=none)→Zza eff sel Ts i acc t=acc
 | [],_,_,_=>rfl
 | τ :: r,i,acc,h=>by
  simp only[Zza]
  rw[ZNe λj σ hj hs=>h (j+1) σ hj (by rwa [← Nat.add_assoc,Nat.add_right_comm])]
  by_cases hs:sel i=true
  ·rw[iP hs,h 0 τ rfl hs];rfl
  ·rw[iN hs]
theorem Ztl {sel:Nat→Bool} {t:Nat}:∀ {Ts:List (List Et)} {i k:Nat} {acc:β} {τ:List Et} {z:β},Ts[k]? = some τ→sel (i+k)=true→eff τ t=some z→(∀ j σ,k<j→Ts[j]? = some σ→sel (i+j)=true→eff σ t=none)→Zza eff sel Ts i acc t=z
 | [],_,_,_,_,_,h,_,_,_=>by cases h
 | σ :: r,i,0,acc,τ,z,h,hs,he,hj=>by
  cases h
  simp only[Zza]
  rw[iP (show sel i=true from hs),he]
  exact ZNe λj σ hσ hsj=>hj (j+1) σ (by omega) hσ (by rwa [← Nat.add_assoc,Nat.add_right_comm])
 | σ :: r,i,k+1,acc,τ,z,h,hs,he,hj=>by
  simp only[Zza]
  exact Ztl (k:=k) (τ:=τ) h (by rwa [Nat.add_right_comm]) he λj σ' hkj hσ hsj=>hj (j+1) σ' (by omega) hσ (by rwa [← Nat.add_assoc,Nat.add_right_comm])
end
theorem ZKl:∀ {Ts:List (List Et)} {f:Fr} {l:Lo} {b i:Nat} {τ:List Et},okTs Ts f l→(l.map En.k).Nodup→Ts[i]? = some τ→∃ fi li,okT τ fi li∧(li.map En.k).Nodup∧(∀ t,lkE fi t=Zza Zdb (λj=>decide (j<b+i)) Ts b (lkE f t) t)∧∀ t,lkE li t=Zza Zwa (λj=>decide (j<b+i)) Ts b (lkE l t) t
 | [],_,_,_,_,_,_,_,h=>by cases h
 | σ :: r,f,l,b,0,τ,h,hn,ht=>by
  cases ht
  refine⟨f,l,h.1,hn,λt=>(ZNe λj _ _ hs=>?_).symm,λt=>(ZNe λj _ _ hs=>?_).symm⟩ <;> (have:=of_decide_eq_true hs;omega)
 | σ :: r,f,l,b,i+1,τ,h,hn,ht=>by
  obtain⟨n1,hl⟩:=ZKc hn h.1
  obtain⟨fi,li,k1,k2,k3,k4⟩:=ZKl (b:=b+1) (i:=i) h.2 n1 ht
  have e:(λj=>decide (j<b+1+i))=λj=>decide (j<b+(i+1)):=by funext j;congr 1;rw[Nat.add_assoc,Nat.add_comm 1 i]
  have hb:decide (b<b+(i+1))=true:=by simp
  refine⟨fi,li,k1,k2,λt=>?_,λt=>?_⟩
  ·rw[k3 t,e,Z1c h.1];simp only[Zza];rw[iP hb]
  ·rw[k4 t,e,hl t];simp only[Zza];rw[iP hb]
theorem Zvm:∀ {Ts:List (List Et)} {f:Fr} {l:Lo} {b:Nat},okTs Ts f l→(l.map En.k).Nodup→((Z4d Ts l).map En.k).Nodup∧(∀ t,lkE (ZKe Ts f) t=Zza Zdb (λ_=>true) Ts b (lkE f t) t)∧∀ t,lkE (Z4d Ts l) t=Zza Zwa (λ_=>true) Ts b (lkE l t) t
 | [],_,_,_,_,hn=>⟨hn,λ_=>rfl,λ_=>rfl⟩
 | τ :: r,f,l,b,h,hn=>by
  obtain⟨n1,hl⟩:=ZKc hn h.1
  obtain⟨k1,k2,k3⟩:=Zvm (b:=b+1) h.2 n1
  refine⟨k1,λt=>?_,λt=>?_⟩
  ·rw[show ZKe (τ :: r) f=ZKe r (Zbc τ f) from rfl,k2 t,Z1c h.1];rfl
  ·rw[show Z4d (τ :: r) l=Z4d r (Zcc τ l) from rfl,k3 t,hl t];rfl
theorem ZPl {α:Type} {C:Cf} {ops:List Oper} {r:α}:∀ {os:List Oper} {f:Fr} {l:Lo} {n:Nat} {K:Fr→Lo→Nat→List Fp→Option α},Zqf C ops os f l n K=some r →
  ∃ Ts:List (List Et),Ts.length=os.length∧okTs Ts f l∧(∀ i o τ,os[i]? = some o→Ts[i]? = some τ→Tr (n+i) (gop C ops (n+i) o) τ ())∧K (ZKe Ts f) (Z4d Ts l) (n+os.length) (Ts.map λτ=>fpT τ Fp.no)=some r
 | [],f,l,n,K,h=>⟨[],rfl,trivial,λ_ _ _ h=>by simp at h,h⟩
 | o :: os,f,l,n,K,h=>by
  simp only[Zqf]at h
  obtain⟨⟨⟩,τ,h1,h2,h3⟩:=Zmt h
  obtain⟨Ts,k1,k2,k3,k4⟩:=ZPl h3
  refine⟨τ :: Ts,by simp[k1],⟨h2,k2⟩,λi o' τ' ho ht=>?_,?_⟩
  ·cases i with
   | zero=>cases ho;cases ht;exact h1
   | succ i=>have:=k3 i o' τ' ho ht;rwa [Nat.add_right_comm]at this
  ·rw[List.length_cons,← Nat.add_assoc,Nat.add_right_comm];exact k4
theorem Zhw {ρ:Type} {n:Nat} {A:Prop}:∀ {e:Ev ρ} {f:Fr} {l:Lo} {K:ρ→Fr→Lo→Prop},Zl n e f l K→(∀ x f' l',K x f' l'→A)→A:=by
 intro e
 induction e with
 | fail=>intro f l K h k;exact h.elim
 | done x=>intro f l K h k;exact k _ _ _ h
 | rdS t q ih=>intro f l K h k;obtain⟨x,hx,h⟩:=h;exact ih _ h k
 | rdL u q ih=>intro f l K h k;obtain⟨x,hx,h⟩:=h;exact ih _ _ h k
 | wrS t x e ih=>intro f l K h k;exact ih h k
 | wrL u L e ih=>intro f l K h k;exact ih h k
 | new u L e ih=>intro f l K h k;exact ih h.2 k
 | del u e ih=>intro f l K h k;exact ih h k
 | bind x q ih=>intro f l K h k;obtain⟨x,hx,h⟩:=h;exact ih _ h k
 | test t e1 e2 i1 i2 =>
  intro f l K h k;obtain⟨s,b,h1,h2,h3⟩:=h
  cases b with
  | true=>exact i1 (h2 rfl) k
  | false=>exact i2 (h3 rfl) k
 | alt b e1 e2 i1 i2 =>
  intro f l K h k
  cases b with
  | true=>exact i1 (h.1 rfl) k
  | false=>exact i2 (h.2 rfl) k
theorem ZNk {C:Cf} {ops:List Oper} {m:Nat}:∀ {os:List Oper} {Ts:List (List Et)} {f:Fr} {l:Lo} {n:Nat},m≤n→Ts.length=os.length→okTs Ts f l→(l.map En.k).Nodup→(∀ i o τ,os[i]? = some o→Ts[i]? = some τ→Tr (n+i) (gop C ops (n+i) o) τ ())→Old m f l (ZKe Ts f) (Z4d Ts l)
 | _,[],_,_,_,_,_,_,_,_=>Old.refl
 | [],_ :: _,_,_,_,_,h,_,_,_=>by cases h
 | o :: os,τ :: Ts,f,l,n,hm,hl,h,hn,ht=>by
  have h1:=ZKh hm Old.refl hn (Zel (ht 0 o τ rfl rfl) h.1)
  have h2:Old m f l (Zbc τ f) (Zcc τ l):=Zhw h1 λx f' l' ⟨⟨_,e1,e2⟩,h⟩=>by subst e1;subst e2;exact h
  exact h2.trans (ZNk (n:=n+1) (by omega) (by simpa using hl) h.2 (ZKc hn h.1).1 λi o' τ' ho hτ=>by
   have:=ht (i+1) o' τ' ho hτ
   rwa [← Nat.add_assoc,Nat.add_right_comm]at this) (Nat.le_refl m)
theorem Zgo {m:Nat} {q:Fp}:∀ {bef:List Fp} {i0:Nat},chk1 m q bef i0=true→∀ i p,bef[i]? = some p→m.testBit (i0+i)=true∨p.free q=true
 | [],_,_,_,_,h=>by cases h
 | p0 :: r,i0,h,i,p,hp=>by
  simp only[chk1]at h
  cases i with
  | zero =>
   cases hp
   rw[Nat.add_zero]
   split at h
   ·rename_i e;exact .inl e
   ·split at h
    ·rename_i e;exact .inr e
    ·cases h
  | succ i =>
   have h':chk1 m q r (i0+1)=true:=by
    split at h
    ·exact h
    ·split at h
     ·exact h
     ·cases h
   have:=Zgo h' i p hp
   rwa [Nat.add_right_comm]at this
theorem Zll:∀ {qs:List Fp} {bef:List Fp} {ms:List Nat},Z7d bef ms qs=true→∀ j q,qs[j]? = some q→∃ m,ms[j]? = some m∧∀ i p,(bef++qs)[i]? = some p→i<bef.length+j→m.testBit i=true∨p.free q=true
 | [],_,_,_,_,_,h=>by cases h
 | q0 :: qs,bef,ms,h,j,q,hq=>by
  cases ms with
  | nil=>cases h
  | cons m0 ms =>
   simp only[Z7d]at h
   split at h
   ·rename_i h1
    cases j with
    | zero =>
     cases hq
     refine⟨m0,rfl,λi p hp hi=>?_⟩
     rw[List.getElem?_append_left (by omega)]at hp
     have:=Zgo h1 i p hp
     rwa [Nat.zero_add]at this
    | succ j =>
     obtain⟨m,h2,h3⟩:=Zll h j q hq
     refine⟨m,h2,λi p hp hi=>h3 i p (by rw[aAq];exact hp) (by simp;omega)⟩
   ·cases h
theorem ZTi {done:List Nat} {t:Nat}:∀ {es:List Edge} {m:Nat},(ZRc done es m).testBit t=true→m.testBit t=true ∨ ∃ e ∈ es,Region.binds .any e=true∧(t=e.on∨(done.getD e.on 0).testBit t=true)
 | [],_,h=>.inl h
 | e :: r,m,h=>by
  simp only[ZRc]at h
  split at h
  ·rename_i hb
   rcases ZTi h with h | ⟨e',he,h1,h2⟩
   ·have h:((m ||| 2^e.on) ||| done.getD e.on 0).testBit t=true:=h
    rw[Nat.testBit_or,Nat.testBit_or,Nat.testBit_two_pow,Bool.or_eq_true,Bool.or_eq_true]at h
    rcases h with (h | h) | h
    ·exact .inl h
    ·exact .inr ⟨e,by simp,hb,.inl (by simpa using (of_decide_eq_true h).symm)⟩
    ·exact .inr ⟨e,by simp,hb,.inr h⟩
   ·exact .inr ⟨e',by simp[he],h1,h2⟩
  ·rcases ZTi h with h | ⟨e',he,h1,h2⟩
   ·exact .inl h
   ·exact .inr ⟨e',by simp[he],h1,h2⟩
theorem ZXp:∀ {os:List Oper} {done:List Nat} {j:Nat} {m:Nat},done[j]? = some m→(Z1a os done)[j]? = some m
 | [],_,_,_,h=>h
 | o :: os,done,j,m,h=>ZXp (os:=os) (by rw[List.getElem?_append_left (List.getElem?_eq_some_iff.1 h).1];exact h)
theorem Z6g {S:Nat→Prop}:∀ {os:List Oper} {done:List Nat},(∀ j o,os[j]? = some o→S (done.length+j)→∀ e ∈ o.after,Region.binds .any e=true→S e.on)→(∀ j m,done[j]? = some m→S j→∀ i,m.testBit i=true→S i) →
  ∀ j o m,os[j]? = some o→(Z1a os done)[done.length+j]? = some m→(∀ e ∈ o.after,Region.binds .any e=true→S e.on)→∀ i,m.testBit i=true→S i
 | [],_,_,_,_,_,_,h,_,_,_,_=>by cases h
 | o0 :: os,done,hc,hd,j,o,m,ho,hm,he,i,hi=>by
  have key:(∀ e ∈ o0.after,Region.binds .any e=true→S e.on)→∀ i,(ZRc done o0.after.toList 0).testBit i=true→S i:=λhe i hi=>by
   rcases ZTi hi with h | ⟨e,h1,h2,h3⟩
   ·simp at h
   ·have hS:=he e (by simpa using h1) h2
    rcases h3 with h3 | h3
    ·subst h3;exact hS
    ·cases hg:done[e.on]? with
     | none=>rw[List.getD_eq_getElem?_getD,hg]at h3;simp at h3
     | some x=>rw[List.getD_eq_getElem?_getD,hg]at h3;exact hd _ x hg hS i h3
  simp only[Z1a]at hm
  cases j with
  | zero =>
   cases ho
   rw[Nat.add_zero]at hm
   have:(Z1a os (done++[ZRc done o0.after.toList 0]))[done.length]? = some (ZRc done o0.after.toList 0):=ZXp (by simp)
   rw[this]at hm;cases hm
   exact key he i hi
  | succ j =>
   refine Z6g (os:=os) (done:=done++[ZRc done o0.after.toList 0]) (λj' o' ho' hS=>hc (j'+1) o' ho' (by rw[lA,List.length_singleton]at hS;rwa [← Nat.add_assoc,Nat.add_right_comm])) (λj' m' hm' hS=>?_) j o m ho (by rw[lA,List.length_singleton,Nat.add_right_comm];exact hm) he i hi
   rcases Nat.lt_or_ge j' done.length with h | h
   ·rw[List.getElem?_append_left h]at hm';exact hd j' m' hm' hS
   ·rw[List.getElem?_append_right h]at hm'
    cases hj:j'-done.length with
    | zero =>
     rw[hj]at hm';cases hm'
     refine key (hc 0 o0 rfl ?_)
     rwa [Nat.add_zero,show done.length=j' by omega]
    | succ k=>rw[hj]at hm';cases hm'
theorem Zcs:∀ {os:List Oper} {i0:Nat},Zce i0 os=true→∀ i o,os[i]? = some o→∀ e ∈ o.after,Region.binds .any e=true→e.on<i0+i
 | [],_,_,_,_,h,_,_,_=>by cases h
 | o0 :: os,i0,h,i,o,ho,e,he,hb=>by
  simp only[Zce]at h
  split at h
  ·rename_i h1
   cases i with
   | zero =>
    cases ho
    have:∀ {es:List Edge},ZIh i0 es=true→∀ e ∈ es,Region.binds .any e=true→e.on<i0:=by
     intro es
     induction es with
     | nil=>intro _ e h;cases h
     | cons x r ih =>
      intro h e he hb;simp only[ZIh]at h;split at h
      ·split at h
       ·rename_i hlt;rcases List.mem_cons.1 he with rfl | he
        ·exact lB hlt
        ·exact ih h e he hb
       ·cases h
      ·rename_i hx;rcases List.mem_cons.1 he with rfl | he
       ·rw[hb]at hx;cases hx
       ·exact ih h e he hb
    exact this h1 e (by simpa using he) hb
   | succ i=>have:=Zcs h i o ho e he hb;omega
  ·cases h
end Go.Eng
namespace Go.Eng
open Go.RowKit
section
variable {N:Nat} {G:V→Value→Prop} {w0:Base} {v0:Zb}
theorem F2_perm {R:En LV→List Loc→Prop} {l l2:Lo} (hp:l.Perm l2):∀ {E:List (List Loc)},F2 R l E→∃ E2,F2 R l2 E2∧E.flatten.Perm E2.flatten:=by
 induction hp with
 | nil=>intro E h;exact⟨E,h,List.Perm.refl _⟩
 | cons x _ ih =>
  intro E h
  cases E with
  | nil=>exact h.elim
  | cons es E =>
   obtain⟨E2,h1,h2⟩:=ih h.2;exact⟨es :: E2,⟨h.1,h1⟩,by simp only[List.flatten_cons];exact List.Perm.append_left _ h2⟩
 | swap x y l =>
  intro E h
  cases E with
  | nil=>exact h.elim
  | cons es E =>
   cases E with
   | nil=>exact h.2.elim
   | cons es2 E =>
    refine⟨es2 :: es :: E,⟨h.2.1,h.1,h.2.2⟩,?_⟩;simp only[List.flatten_cons];rw[← aAq,← aAq];exact List.Perm.append_right _ List.perm_append_comm
 | trans _ _ i1 i2 =>
  intro E h;obtain⟨E2,h1,h2⟩:=i1 h;obtain⟨E3,h3,h4⟩:=i2 h1;exact⟨E3,h3,h2.trans h4⟩
theorem ZMd {l:Lo} (hn:(l.map En.k).Nodup) {e:En LV} (h:e ∈ l):lkE l e.k=some e:=by
 induction l with
 | nil=>cases h
 | cons p r ih =>
  simp only[List.map_cons,List.nodup_cons]at hn;rw[ZS];rcases List.mem_cons.1 h with rfl | h
  ·rw[iP rfl]
  ·rw[iN λe2=>hn.1 (List.mem_map.2 ⟨e,h,Eq.symm e2⟩)];exact ih hn.2 h
theorem ZCn {l:Lo} (hn:(l.map En.k).Nodup):l.Nodup:=by
 induction l with
 | nil=>exact List.nodup_nil
 | cons p r ih =>
  simp only[List.map_cons,List.nodup_cons]at hn;exact List.nodup_cons.2 ⟨λh=>hn.1 (List.mem_map.2 ⟨p,h,rfl⟩),ih hn.2⟩
theorem Zgx {l l2:Lo} (hn:(l.map En.k).Nodup) (hn2:(l2.map En.k).Nodup) (h:∀ u,lkE l u=lkE l2 u):l.Perm l2:=by
 refine (List.perm_ext_iff_of_nodup (ZCn hn) (ZCn hn2)).2 λe=>⟨λhe=>?_,λhe=>?_⟩
 ·have:=ZMd hn he;rw[h]at this;exact (Zt this).1
 ·have:=ZMd hn2 he;rw[← h]at this;exact (Zt this).1
theorem RelX.look {U X:Nat→Prop} {f f2:Fr} {l l2:Lo} {a:Act} {w:World} {γ:Nat→Gh} {v:Zb} {ℓ:List Loc} (h:RelX N G w0 v0 U X f l a w γ v ℓ) (hn2:(l2.map En.k).Nodup) (hf:∀ t,lkE f2 t=lkE f t) (hl:∀ u,lkE l2 u=lkE l u):RelX N G w0 v0 U X f2 l2 a w γ v ℓ:=by
 obtain⟨E,hE,hp⟩:=h.lr;have hle:Le U v γ l v γ l2:=by
  have:=Le.refl (U:=U) hE (Zb.le_refl v);exact⟨Zb.le_refl _,λu e' hk he=>this.l u e' hk (by rw[← hl];exact he)⟩
 have hpl:=Zgx h.nd hn2 λu=>(hl u).symm;obtain⟨E2,h1,h2⟩:=F2_perm hpl hE;refine⟨h.st,λt e he=>?_,⟨E2,h1.imp λe he es hr=>?_,hp.trans h2⟩,hn2,λt e he=>h.uf t e ((hf t) ▸ he),λe he=>h.ul e (hpl.mem_iff.2 he),λx y hg=>⟨ZEb hle (h.gh x y hg).2 (h.gh x y hg).1,(h.gh x y hg).2⟩⟩
 ·have he':=(hf t) ▸ he;exact ZEb hle (h.uf t e he').1 (h.fr t e he')
 ·exact Zzi hle (h.ul e (hpl.mem_iff.2 he)).2.2 rfl hr
end
end Go.Eng
namespace Go.Eng
open Go.RowKit
section
variable {N:Nat} {G:V→Value→Prop} {w0:Base} {v0:Zb}
theorem Rel.draw {U:Nat→Prop} {f:Fr} {l:Lo} {a:Act} {w:World} (h:Rel N G w0 v0 U f l a w):Rel N G w0 v0 U f l a w.drew:=by
 obtain⟨γ,v,ℓ,h⟩:=h;exact⟨γ,v,ℓ,h.st.drew,h.fr,h.lr,h.nd,h.uf,h.ul,h.gh⟩
def sel (listed:Array Bool):Nat→Bool:=λj=>listed.getD j false
def UE (n:Nat) (listed:Array Bool):Nat→Prop:=λk=>k<n ∨ ∃ j,listed.getD j false=true∧k=n+j
structure Inv (N:Nat) (G:V→Value→Prop) (w0:Base) (v0:Zb) (ops:Array Oper) (Ts:List (List Et)) (f:Fr) (l:Lo) (n:Nat) (listed:Array Bool) (a:Act) (w:World):Prop where
 size:listed.size=ops.size
 closed:∀ (j:Nat) (o:Oper),ops[j]? = some o→listed.getD j false=true→∀ e ∈ o.after,Region.binds .any e=true→listed.getD e.on false=true
 rel:∃ f1 l1,Rel N G w0 v0 (UE n listed) f1 l1 a w∧(∀ t,lkE f1 t=Zza Zdb (sel listed) Ts 0 (lkE f t) t)∧∀ t,lkE l1 t=Zza Zwa (sel listed) Ts 0 (lkE l t) t
theorem Znk {ops:Array Oper} (hb:Zce 0 ops.toList=true) {listed:Array Bool} (hs:listed.size=ops.size):∀ (n j:Nat),j<n→j<ops.size→listed.getD j true=false→Region.ready .any ops listed≠[]
 | 0,j,h,_,_=>by omega
 | n+1,j,h,hj,hl=>by
  intro h0
  by_cases hp:∃ e ∈ (ops[j]).after,Region.binds .any e=true∧listed.getD e.on false=false
  ·obtain⟨e,he,hbb,hn⟩:=hp
   have hlt:=Zcs hb j ops[j] (by simp[hj]) e he hbb
   refine Znk hb hs n e.on (by omega) (by omega) ?_ h0
   rw[Z3b (by omega)];exact hn
  ·have:j ∈ Region.ready .any ops listed:=mem_ready.2 ⟨hl,ops[j],by simp[hj],λe he hb=>by
    cases hx:listed.getD e.on false with
    | true=>rfl
    | false=>exact absurd ⟨e,he,hb,hx⟩ hp⟩
   rw[h0]at this;cases this
theorem Z6w {C:Cf} (hC:CfOK C) {ops:Array Oper} {Ts:List (List Et)} {f:Fr} {l:Lo} {n:Nat} {Q:Exit→Act→World→Prop} (hb:Zce 0 ops.toList=true) (hds:∀ o ∈ ops.toList,∀ k,o.dst=some k→k<N) (hl:Ts.length=ops.toList.length)
  (hn:(l.map En.k).Nodup) (hok:okTs Ts f l) (htr:∀ i o τ,ops.toList[i]? = some o→Ts[i]? = some τ→Tr (n+i) (gop C ops.toList (n+i) o) τ ()) (hch:Z7d [] (Z1a ops.toList []) (Ts.map λτ=>fpT τ Fp.no)=true)
  (hQ:∀ a' w',Rel N G w0 v0 (· < n+ops.toList.length) (ZKe Ts f) (Z4d Ts l) a' w'→Q .normal a' w'):∀ (fuel:Nat) (listed:Array Bool) (a:Act) (w:World),left listed=fuel→Inv N G w0 v0 ops Ts f l n listed a w→wpAny C.P .any ops Q fuel listed a w:=by
 have ord:∀ (i j:Nat) (τ σ:List Et),i<j→Ts[i]? = some τ→Ts[j]? = some σ→∃ m,(Z1a ops.toList [])[j]? = some m∧(m.testBit i=true∨Apart τ σ):=by
  intro i j τ σ hij hτ hσ;obtain⟨m,h1,h2⟩:=Zll hch j (fpT σ Fp.no) (by simp[hσ]);refine⟨m,h1,(h2 i (fpT τ Fp.no) (by simp[hτ]) (by simpa using hij)).imp_right Zwq⟩
 have opAt:∀ (j:Nat) (σ:List Et),Ts[j]? = some σ→∃ o,ops[j]? = some o:=λj σ h=>by
  have:=(List.getElem?_eq_some_iff.1 h).1;rw[hl]at this;exact⟨ops[j]'(by simpa using this),by simp⟩
 intro fuel
 induction fuel with
 | zero =>
  intro listed a w hfu hI;have hall:∀ j,listed.getD j true=true:=λj=>Zcn hfu;refine⟨?_,?_⟩
  ·cases hx:Region.ready .any ops listed with
   | nil=>rfl
   | cons p r =>
    obtain⟨h1,_⟩:=mem_ready.1 (show p ∈ Region.ready .any ops listed by rw[hx];simp);rw[hall p]at h1;cases h1
  ·obtain⟨f1,l1,⟨γ,v,ℓ,h1⟩,h2,h3⟩:=hI.rel;obtain⟨k1,k2,k3⟩:=Zvm (b:=0) hok hn;have hsel:∀ (j:Nat) (σ:List Et),Ts[j]? = some σ→sel listed (0+j)=true:=λj σ h=>by
    obtain⟨o,ho⟩:=opAt j σ h;rw[Nat.zero_add];show listed.getD j false=true;rw[← Z3b (by rw[hI.size];exact Zhe ho)];exact hall j
   refine hQ a w ⟨γ,v,ℓ,(h1.look k1 (λt=>?_) λt=>?_).mono (λk hk=>?_) λk hk=>?_⟩
   ·rw[k2 t,h2 t];exact (Zke λj σ hj _=>(hsel j σ hj)).symm
   ·rw[k3 t,h3 t];exact (Zke λj σ hj _=>(hsel j σ hj)).symm
   all_goals
    rcases hk with hk | ⟨j,hj,rfl⟩
    ·omega
    ·have:j<listed.size:=by
      rcases Nat.lt_or_ge j listed.size with h | h
      ·exact h
      ·simp[Array.getElem?_eq_none h]at hj
     rw[hI.size]at this;simp;omega
 | succ fuel ih =>
  intro listed a w hfu hI;refine⟨λh0=>?_,λi hi=>?_⟩
  ·obtain⟨j,hj,hj2⟩:=ZFl (listed:=listed) (by omega);exact absurd h0 (Znk hb hI.size (j+1) j (by omega) (by rw[← hI.size];exact hj) hj2)
  ·obtain⟨hun,o,ho,hall⟩:=mem_ready.1 hi;have hil:i<listed.size:=by rw[hI.size];exact Zhe ho
   have hunf:listed.getD i false=false:=by rw[← Z3b hil];exact hun
   have ho':ops.toList[i]? = some o:=by rw[Array.getElem?_toList];exact ho
   have hlt:i<Ts.length:=by rw[hl];exact (List.getElem?_eq_some_iff.1 ho').1
   have hτ:Ts[i]? = some Ts[i]:=List.getElem?_eq_getElem hlt;generalize hg:Ts[i]=τ at hτ;obtain⟨fi,li,b1,b2,b3,b4⟩:=ZKl (b:=0) hok hn hτ;obtain⟨f1,l1,⟨γ,v,ℓ,h1⟩,h2,h3⟩:=hI.rel;have befo:∀ (j:Nat) (σ:List Et),j<i→Ts[j]? = some σ→listed.getD j false=true∨Apart σ τ:=by
    intro j σ hj hσ;obtain⟨m,q1,q2⟩:=ord j i σ τ hj hσ hτ;refine q2.imp_left λhbit=>?_;refine Z6g (S:=λk=>listed.getD k false=true) (done:=[]) (λj' o' ho' hS=>hI.closed j' o' (by rw[← Array.getElem?_toList];exact ho') (by simpa using hS)) (λj' m' hm'=>by simp at hm') i o m ho' (by simpa using q1) hall j hbit
   have afte:∀ (j:Nat) (σ:List Et),i<j→Ts[j]? = some σ→listed.getD j false=false∨Apart τ σ:=by
    intro j σ hj hσ;obtain⟨m,q1,q2⟩:=ord i j τ σ hj hτ hσ;refine q2.imp_left λhbit=>?_
    cases hx:listed.getD j false with
    | false=>rfl
    | true =>
     obtain⟨oj,hoj⟩:=opAt j σ hσ;have:=Z6g (S:=λk=>listed.getD k false=true) (done:=[]) (λj' o' ho' hS=>hI.closed j' o' (by rw[← Array.getElem?_toList];exact ho') (by simpa using hS)) (λj' m' hm'=>by simp at hm') j oj m (by rw[Array.getElem?_toList];exact hoj) (by simpa using q1) (hI.closed j oj hoj hx) i hbit;rw[hunf]at this;cases this
   have same:∀ {β:Type} (eff:List Et→Nat→Option β) (P:Nat→Prop) (acc:β) (t:Nat),P t→(∀ σ,Apart σ τ→P t→eff σ t≠none→False)→(∀ σ,Apart τ σ→P t→eff σ t≠none→False)→Zza eff (λj=>decide (j<0+i)) Ts 0 acc t=Zza eff (sel listed) Ts 0 acc t:=by
    intro β eff P acc t hP hA hB;refine Zke λj σ hj hne=>?_;simp only[Nat.zero_add];rcases Nat.lt_trichotomy j i with h | h | h
    ·rcases befo j σ h hj with q | q
     ·rw[dTq h];exact q.symm
     ·exact (hA σ q hP hne).elim
    ·subst h;rw[dFq (Nat.lt_irrefl _)];exact hunf.symm
    ·rcases afte j σ h hj with q | q
     ·rw[dFq (by omega)];exact q.symm
     ·exact (hB σ q hP hne).elim
   have okτ:okT τ f1 l1:=by
    refine Zre b2 h1.nd b1 (λt ht=>?_) λt ht=>?_
    ·rw[b3 t,h2 t];exact same Zdb (rdS τ) _ t ht (λσ q hp hne=>q.s1 t hne hp) λσ q hp hne=>q.s3 t hp hne
    ·rw[b4 t,h3 t];exact same Zwa (rdL τ) _ t ht (λσ q hp hne=>q.l1 t hne hp) λσ q hp hne=>q.l3 t hp hne
   have hruns:=Zel (htr i o τ ho' hτ) okτ;have hnU:¬ UE n listed (n+i):=by
    rintro (h | ⟨j,hj,e⟩)
    ·omega
    ·have:i=j:=by omega
     subst this;rw[hunf]at hj;cases hj
   have selS:∀ j,sel (listed.setIfInBounds i true) j=if i=j then true else sel listed j:=λj=>by
    by_cases h:i=j
    ·subst h;rw[iP rfl];exact ZPb hil
    ·rw[iN h];exact ZYa h
   have hUE:∀ k,UE n listed k→UE n (listed.setIfInBounds i true) k:=by
    rintro k (h | ⟨j,hj,e⟩)
    ·exact .inl h
    ·refine .inr ⟨j,?_,e⟩;have:=selS j;unfold sel at this;rw[this,hj];split <;> rfl
   have hXi:UE n (listed.setIfInBounds i true) (n+i):=.inr ⟨i,ZPb hil,rfl⟩;have hgg:=Z1k (X:=UE n (listed.setIfInBounds i true)) hC (h1.mono (λ_ h=>h) hUE) hUE hXi hnU hds (hds o (mG ho')) hruns;have upd:∀ {β:Type} (eff:List Et→Nat→Option β) (acc:β) (t:Nat),(∀ σ,Apart τ σ→eff τ t≠none→eff σ t≠none→False)→Zza eff (sel (listed.setIfInBounds i true)) Ts 0 acc t=(eff τ t).getD (Zza eff (sel listed) Ts 0 acc t):=by
    intro β eff acc t hA
    cases he:eff τ t with
    | none =>
     refine Zke λj σ hj hne=>?_;rw[Nat.zero_add,selS j,iN];intro e;subst e;rw[hτ]at hj;cases hj;exact hne he
    | some z =>
     refine Ztl (k:=i) hτ (by rw[Nat.zero_add,selS i,iP rfl]) he λj σ hij hσ hs=>?_;rw[Nat.zero_add,selS j,iN (by omega)]at hs;rcases afte j σ hij hσ with q | q
     ·rw[show sel listed j=false from q]at hs;cases hs
     ·cases hx:eff σ t with
      | none=>rfl
      | some y=>exact (hA σ q (by rw[he];exact λe=>by cases e) (by rw[hx];exact λe=>by cases e)).elim
   have nxt:∀ f' l' a' w',((()=()∧f'=Zbc τ f1∧l'=Zcc τ l1)∧True)→Rel N G w0 v0 (UE n (listed.setIfInBounds i true)) f' l' a' w'→wpAny C.P .any ops Q fuel (listed.setIfInBounds i true) a' w':=by
    rintro f' l' a' w' ⟨⟨_,rfl,rfl⟩,_⟩ hr;refine ih _ _ _ (by have:=ZOh hun;omega) ⟨by simp[hI.size],λj oj hj hlj e he hbb=>?_,_,_,hr,λt=>?_,λt=>?_⟩
    ·have hj2:=selS e.on;have hj3:=selS j;unfold sel at hj2 hj3;rw[hj2];split
     ·rfl
     ·rw[hj3]at hlj;split at hlj
      ·rename_i hij;subst hij;rw[ho]at hj;cases hj;exact hall e he hbb
      ·exact hI.closed j oj hj hlj e he hbb
    ·rw[Z1c okτ,h2 t];exact (upd Zdb _ t λσ q hp hne=>q.s2 t hp hne).symm
    ·rw[(ZKc h1.nd okτ).2 t,h3 t];exact (upd Zwa _ t λσ q hp hne=>q.l2 t hp hne).symm
   unfold wpOp;rw[ho];rcases hgg with ⟨hw,hg⟩ | ⟨hw,f',l',q1,q2⟩
   ·simp only[hw,if_true];exact .inl (ZXi rfl hg λx w' ⟨f',l',q1,q2⟩=>nxt f' l' _ w' ⟨⟨rfl,q1.2⟩,trivial⟩ q2)
   ·simp only[hw];exact nxt f' l' _ w ⟨⟨rfl,q1.2⟩,trivial⟩ q2
end
end Go.Eng
namespace Go.Eng
open Go.RowKit
section
variable {N:Nat} {G:V→Value→Prop} {w0:Base} {v0:Zb}
theorem Zer:∀ {os:List Oper} {done:List Nat},(Z1a os done).length=done.length+os.length
 | [],done=>by simp[Z1a]
 | o :: os,done=>by
  simp only[Z1a]
  rw[Zer]
  simp;omega
theorem Zsq {m:Nat}:∀ {k:Nat},allB m k=true→∀ i,i<k→m.testBit i=true
 | 0,_,_,h=>by omega
 | k+1,h,i,hi=>by
  simp only[allB]at h
  split at h
  ·rename_i hb
   rcases Nat.lt_or_ge i k with h1 | h1
   ·exact Zsq h i h1
   ·rw[show i=k by omega];exact hb
  ·cases h
theorem ZYv {ops:List Oper} {o:Oper} (h:ZYj ops=some o):ops.dropLast++[o]=ops∧o.guard=none∧∀ i,i<ops.dropLast.length→(ZRc (Z1a ops.dropLast []) o.after.toList 0).testBit i=true:=by
 unfold ZYj at h;split at h
 ·cases h
 ·rename_i q hq;split at h
  ·cases h
  ·rename_i hc;split at h
   ·rename_i hb
    cases h
    refine⟨?_,?_,Zsq hb⟩
    ·rcases List.eq_nil_or_concat ops with rfl | ⟨L,b,rfl⟩
     ·cases hq
     ·simp at hq;subst hq;simp
    ·unfold Zbo at hc;split at hc
     ·rename_i hg;exact hg
     ·cases hc
   ·cases h
theorem Zhn {l:Array Bool} {i j:Nat} {b:Bool} (h:¬ j=i):(l.setIfInBounds i true).getD j b=l.getD j b:=by
 simp[Array.getD_eq_getD_getElem?,Array.getElem?_setIfInBounds_ne (Ne.symm h)]
theorem ZXx {C:Cf} (hC:CfOK C) {ops:Array Oper} {ol:Oper} {Ts:List (List Et)} {f:Fr} {l:Lo} {n:Nat} {Q:Exit→Act→World→Prop} (he:ops.toList.dropLast++[ol]=ops.toList) (hg:ol.guard=none) (hanc:∀ i,i<ops.toList.dropLast.length→(ZRc (Z1a ops.toList.dropLast []) ol.after.toList 0).testBit i=true)
  (hb:Zce 0 ops.toList=true) (hds:∀ o ∈ ops.toList,∀ k,o.dst=some k→k<N) (hl:Ts.length=ops.toList.dropLast.length)
  (hn:(l.map En.k).Nodup) (hok:okTs Ts f l) (htr:∀ i o τ,ops.toList.dropLast[i]? = some o→Ts[i]? = some τ→Tr (n+i) (gop C ops.toList (n+i) o) τ ()) (hch:Z7d [] (Z1a ops.toList.dropLast []) (Ts.map λτ=>fpT τ Fp.no)=true)
  (hQ:∀ a' w',Rel N G w0 v0 (· < n+ops.toList.dropLast.length) (ZKe Ts f) (Z4d Ts l) a' w'→wpList C.P ops Q [ol] a' w'):∀ (fuel:Nat) (listed:Array Bool) (a:Act) (w:World),left listed=fuel+1→listed.getD ops.toList.dropLast.length true=false→Inv N G w0 v0 ops Ts f l n listed a w→wpAny C.P .any ops Q (fuel+1) listed a w:=by
 have hsz:ops.size=ops.toList.dropLast.length+1:=by
  have:=congrArg List.length he;simp at this ⊢;omega
 have initAt:∀ {j:Nat} {o:Oper},ops.toList.dropLast[j]? = some o→ops[j]? = some o:=λ{j o} h=>by
  rw[← Array.getElem?_toList,← he,List.getElem?_append_left (List.getElem?_eq_some_iff.1 h).1];exact h
 have lastAt:ops[ops.toList.dropLast.length]? = some ol:=by
  rw[← Array.getElem?_toList]
  conv=>lhs;rw[← he]
  simp
 have ord:∀ (i j:Nat) (τ σ:List Et),i<j→Ts[i]? = some τ→Ts[j]? = some σ→∃ m,(Z1a ops.toList.dropLast [])[j]? = some m∧(m.testBit i=true∨Apart τ σ):=by
  intro i j τ σ hij hτ hσ;obtain⟨m,h1,h2⟩:=Zll hch j (fpT σ Fp.no) (by simp[hσ]);refine⟨m,h1,(h2 i (fpT τ Fp.no) (by simp[hτ]) (by simpa using hij)).imp_right Zwq⟩
 have opAt:∀ (j:Nat) (σ:List Et),Ts[j]? = some σ→∃ o,ops.toList.dropLast[j]? = some o:=λj σ h=>by
  have:=(List.getElem?_eq_some_iff.1 h).1;rw[hl]at this;exact⟨_,List.getElem?_eq_getElem this⟩
 have hsub:∀ {listed:Array Bool} {a:Act} {w:World},Inv N G w0 v0 ops Ts f l n listed a w→∀ j o,ops.toList.dropLast[j]? = some o→listed.getD (([]:List Nat).length+j) false=true→∀ e ∈ o.after,Region.binds .any e=true→listed.getD e.on false=true:=λhI j o ho hS=>hI.closed j o (initAt ho) (by simpa using hS);intro fuel
 induction fuel with
 | zero =>
  intro listed a w hfu hlast hI;have hll:ops.toList.dropLast.length<listed.size:=by rw[hI.size];omega
  have h0:left (listed.setIfInBounds ops.toList.dropLast.length true)=0:=by have:=ZOh hlast;omega
  have hall':∀ j,(listed.setIfInBounds ops.toList.dropLast.length true).getD j true=true:=λj=>Zcn h0;have hall:∀ j,j≠ops.toList.dropLast.length→j<listed.size→listed.getD j false=true:=λj hj hlt=>by
   have:=hall' j;rw[← Z3b hlt];rw[Zhn hj]at this;exact this
  refine⟨λh0=>?_,λi hi=>?_⟩
  ·exact absurd h0 (Znk hb hI.size (ops.toList.dropLast.length+1) ops.toList.dropLast.length (by omega) (by omega) hlast)
  ·obtain⟨hun,o,ho,hbef⟩:=mem_ready.1 hi;have hil:i<listed.size:=by rw[hI.size];exact Zhe ho
   have hi2:i=ops.toList.dropLast.length:=by
    rcases Nat.decEq i ops.toList.dropLast.length with h | h
    ·have:=hall i h hil;rw[← Z3b hil,hun]at this;cases this
    ·exact h
   subst hi2;rw[lastAt]at ho
   cases ho
   obtain⟨f1,l1,⟨γ,v,ℓ,h1⟩,h2,h3⟩:=hI.rel;obtain⟨k1,k2,k3⟩:=Zvm (b:=0) hok hn;have hsel:∀ (j:Nat) (σ:List Et),Ts[j]? = some σ→sel listed (0+j)=true:=λj σ h=>by
    have hj:=(List.getElem?_eq_some_iff.1 h).1;rw[hl]at hj;rw[Nat.zero_add];exact hall j (by omega) (by omega)
   have hw:=hQ a w ⟨γ,v,ℓ,(h1.look k1 (λt=>by rw[k2 t,h2 t];exact (Zke λj σ hj _=>(hsel j σ hj).symm)) λt=>by rw[k3 t,h3 t];exact (Zke λj σ hj _=>(hsel j σ hj).symm)).mono (λk hk=>?_) λk hk=>?_⟩
   ·unfold wpOp;rw[lastAt];unfold wpList at hw;have hwt:Region.wanted ol (yielded ops a.tmps)=true:=ZVb hg;simp only[hwt,if_true]at hw ⊢;refine hw.imp_left (Oper.wp_mono λa' w' hq=>⟨?_,hq⟩)
    cases hx:Region.ready .any ops (listed.setIfInBounds ops.toList.dropLast.length true) with
    | nil=>rfl
    | cons p r =>
     obtain⟨h1,_⟩:=mem_ready.1 (show p ∈ Region.ready .any ops (listed.setIfInBounds ops.toList.dropLast.length true) by rw[hx];simp);rw[hall' p]at h1;cases h1
   all_goals
    rcases hk with hk | ⟨j,hj,rfl⟩
    ·omega
    ·have hlt:j<listed.size:=by
      rcases Nat.lt_or_ge j listed.size with h | h
      ·exact h
      ·simp[Array.getElem?_eq_none h]at hj
     have hne:j≠ops.toList.dropLast.length:=λe=>by
      rw[e,← Z3b hll,hlast]at hj;cases hj
     rw[hI.size]at hlt;show n+j<n+_;omega
 | succ fuel ih =>
  intro listed a w hfu hlast hI;refine⟨λh0=>?_,λi hi=>?_⟩
  ·exact absurd h0 (Znk hb hI.size (ops.toList.dropLast.length+1) ops.toList.dropLast.length (by omega) (by omega) hlast)
  ·obtain⟨hun,o,ho,hall⟩:=mem_ready.1 hi;have hil:i<listed.size:=by rw[hI.size];exact Zhe ho
   have hunf:listed.getD i false=false:=by rw[← Z3b hil];exact hun
   have hne:i≠ops.toList.dropLast.length:=by
    intro e;subst e;rw[lastAt]at ho
    cases ho
    have hbits:∀ j,j<ops.toList.dropLast.length→listed.getD j false=true:=λj hj=>by
     rcases ZTi (hanc j hj) with h | ⟨e,h1,h2,h3⟩
     ·simp at h
     ·have hS:=hall e (by simpa using h1) h2;rcases h3 with h3 | h3
      ·rw[h3];exact hS
      ·cases hg:(Z1a ops.toList.dropLast [])[e.on]? with
       | none=>rw[List.getD_eq_getElem?_getD,hg]at h3;simp at h3
       | some m =>
        rw[List.getD_eq_getElem?_getD,hg]at h3;have hlt:e.on<ops.toList.dropLast.length:=by
         have:=(List.getElem?_eq_some_iff.1 hg).1;rw[Zer]at this;simpa using this
        have hoe:=List.getElem?_eq_getElem hlt;exact Z6g (S:=λk=>listed.getD k false=true) (done:=[]) (hsub hI) (λj' m' hm'=>by simp at hm') e.on _ m hoe (by simpa using hg) (hI.closed e.on _ (initAt hoe) hS) j h3
    have h0:left (listed.setIfInBounds ops.toList.dropLast.length true)=fuel+1:=by have:=ZOh hlast;omega
    obtain⟨j,hj,hj2⟩:=ZFl (listed:=listed.setIfInBounds ops.toList.dropLast.length true) (by omega);have hjs:j<listed.size:=by simpa using hj
    rcases Nat.decEq j ops.toList.dropLast.length with h | h
    ·have h1:=hbits j (by rw[hI.size]at hjs;omega);rw[← Z3b hjs]at h1;rw[Zhn h,h1]at hj2;cases hj2
    ·subst h;have:(listed.setIfInBounds ops.toList.dropLast.length true).getD ops.toList.dropLast.length true=true:=by simp[hjs]
     rw[this]at hj2;cases hj2
   have hlt0:i<ops.toList.dropLast.length:=by
    rw[hI.size]at hil;omega
   have ho':ops.toList.dropLast[i]? = some o:=by
    have:=List.getElem?_eq_getElem hlt0;rw[this];have h2:=initAt this;rw[ho]at h2;exact h2.symm
   have hlt:i<Ts.length:=by rw[hl];exact (List.getElem?_eq_some_iff.1 ho').1
   have hτ:Ts[i]? = some Ts[i]:=List.getElem?_eq_getElem hlt;generalize hg:Ts[i]=τ at hτ;obtain⟨fi,li,b1,b2,b3,b4⟩:=ZKl (b:=0) hok hn hτ;obtain⟨f1,l1,⟨γ,v,ℓ,h1⟩,h2,h3⟩:=hI.rel;have befo:∀ (j:Nat) (σ:List Et),j<i→Ts[j]? = some σ→listed.getD j false=true∨Apart σ τ:=by
    intro j σ hj hσ;obtain⟨m,q1,q2⟩:=ord j i σ τ hj hσ hτ;refine q2.imp_left λhbit=>?_;refine Z6g (S:=λk=>listed.getD k false=true) (done:=[]) (hsub hI) (λj' m' hm'=>by simp at hm') i o m ho' (by simpa using q1) hall j hbit
   have afte:∀ (j:Nat) (σ:List Et),i<j→Ts[j]? = some σ→listed.getD j false=false∨Apart τ σ:=by
    intro j σ hj hσ;obtain⟨m,q1,q2⟩:=ord i j τ σ hj hτ hσ;refine q2.imp_left λhbit=>?_
    cases hx:listed.getD j false with
    | false=>rfl
    | true =>
     obtain⟨oj,hoj⟩:=opAt j σ hσ;have:=Z6g (S:=λk=>listed.getD k false=true) (done:=[]) (hsub hI) (λj' m' hm'=>by simp at hm') j oj m hoj (by simpa using q1) (hI.closed j oj (initAt hoj) hx) i hbit;rw[hunf]at this;cases this
   have same:∀ {β:Type} (eff:List Et→Nat→Option β) (P:Nat→Prop) (acc:β) (t:Nat),P t→(∀ σ,Apart σ τ→P t→eff σ t≠none→False)→(∀ σ,Apart τ σ→P t→eff σ t≠none→False)→Zza eff (λj=>decide (j<0+i)) Ts 0 acc t=Zza eff (sel listed) Ts 0 acc t:=by
    intro β eff P acc t hP hA hB;refine Zke λj σ hj hne=>?_;simp only[Nat.zero_add];rcases Nat.lt_trichotomy j i with h | h | h
    ·rcases befo j σ h hj with q | q
     ·rw[dTq h];exact q.symm
     ·exact (hA σ q hP hne).elim
    ·subst h;rw[dFq (Nat.lt_irrefl _)];exact hunf.symm
    ·rcases afte j σ h hj with q | q
     ·rw[dFq (by omega)];exact q.symm
     ·exact (hB σ q hP hne).elim
   have okτ:okT τ f1 l1:=by
    refine Zre b2 h1.nd b1 (λt ht=>?_) λt ht=>?_
    ·rw[b3 t,h2 t];exact same Zdb (rdS τ) _ t ht (λσ q hp hne=>q.s1 t hne hp) λσ q hp hne=>q.s3 t hp hne
    ·rw[b4 t,h3 t];exact same Zwa (rdL τ) _ t ht (λσ q hp hne=>q.l1 t hne hp) λσ q hp hne=>q.l3 t hp hne
   have hruns:=Zel (htr i o τ ho' hτ) okτ;have hnU:¬ UE n listed (n+i):=by
    rintro (h | ⟨j,hj,e⟩)
    ·omega
    ·have:i=j:=by omega
     subst this;rw[hunf]at hj;cases hj
   have selS:∀ j,sel (listed.setIfInBounds i true) j=if i=j then true else sel listed j:=λj=>by
    by_cases h:i=j
    ·subst h;rw[iP rfl];exact ZPb hil
    ·rw[iN h];exact ZYa h
   have hUE:∀ k,UE n listed k→UE n (listed.setIfInBounds i true) k:=by
    rintro k (h | ⟨j,hj,e⟩)
    ·exact .inl h
    ·refine .inr ⟨j,?_,e⟩;have:=selS j;unfold sel at this;rw[this,hj];split <;> rfl
   have hXi:UE n (listed.setIfInBounds i true) (n+i):=.inr ⟨i,ZPb hil,rfl⟩;have hgg:=Z1k (X:=UE n (listed.setIfInBounds i true)) hC (h1.mono (λ_ h=>h) hUE) hUE hXi hnU hds (hds o (by rw[← he];exact List.mem_append_left _ (mG ho'))) hruns;have upd:∀ {β:Type} (eff:List Et→Nat→Option β) (acc:β) (t:Nat),(∀ σ,Apart τ σ→eff τ t≠none→eff σ t≠none→False)→Zza eff (sel (listed.setIfInBounds i true)) Ts 0 acc t=(eff τ t).getD (Zza eff (sel listed) Ts 0 acc t):=by
    intro β eff acc t hA
    cases he:eff τ t with
    | none =>
     refine Zke λj σ hj hne=>?_;rw[Nat.zero_add,selS j,iN];intro e;subst e;rw[hτ]at hj;cases hj;exact hne he
    | some z =>
     refine Ztl (k:=i) hτ (by rw[Nat.zero_add,selS i,iP rfl]) he λj σ hij hσ hs=>?_;rw[Nat.zero_add,selS j,iN (by omega)]at hs;rcases afte j σ hij hσ with q | q
     ·rw[show sel listed j=false from q]at hs;cases hs
     ·cases hx:eff σ t with
      | none=>rfl
      | some y=>exact (hA σ q (by rw[he];exact λe=>by cases e) (by rw[hx];exact λe=>by cases e)).elim
   have nxt:∀ f' l' a' w',((()=()∧f'=Zbc τ f1∧l'=Zcc τ l1)∧True)→Rel N G w0 v0 (UE n (listed.setIfInBounds i true)) f' l' a' w'→wpAny C.P .any ops Q (fuel+1) (listed.setIfInBounds i true) a' w':=by
    rintro f' l' a' w' ⟨⟨_,rfl,rfl⟩,_⟩ hr;refine ih _ _ _ (by have:=ZOh hun;omega) (by
     rw[Zhn (Ne.symm hne)];exact hlast) ⟨by simp[hI.size],λj oj hj hlj e he hbb=>?_,_,_,hr,λt=>?_,λt=>?_⟩
    ·have hj2:=selS e.on;have hj3:=selS j;unfold sel at hj2 hj3;rw[hj2];split
     ·rfl
     ·rw[hj3]at hlj;split at hlj
      ·rename_i hij;subst hij;rw[ho]at hj;cases hj;exact hall e he hbb
      ·exact hI.closed j oj hj hlj e he hbb
    ·rw[Z1c okτ,h2 t];exact (upd Zdb _ t λσ q hp hne=>q.s2 t hp hne).symm
    ·rw[(ZKc h1.nd okτ).2 t,h3 t];exact (upd Zwa _ t λσ q hp hne=>q.l2 t hp hne).symm
   unfold wpOp;rw[ho];rcases hgg with ⟨hw,hg⟩ | ⟨hw,f',l',q1,q2⟩
   ·simp only[hw,if_true];exact .inl (ZXi rfl hg λx w' ⟨f',l',q1,q2⟩=>nxt f' l' _ w' ⟨⟨rfl,q1.2⟩,trivial⟩ q2)
   ·simp only[hw];exact nxt f' l' _ w ⟨⟨rfl,q1.2⟩,trivial⟩ q2
end
end Go.Eng
namespace Go.Eng
open Go.RowKit
section
variable {N:Nat} {G:V→Value→Prop} {w0:Base} {v0:Zb}
def Zme (N:Nat) (G:V→Value→Prop) (w0:Base) (v0:Zb) (n:Nat) (f:Fr) (l:Lo) (p:Fr→Lo→Nat→Prop) (S:Act→World→Prop):Prop :=
 ∀ f' l' n' a' w',p f' l' n'→n≤n'→Old n f l f' l'→Rel N G w0 v0 (· < n') f' l' a' w'→S a' w'
theorem Zme.step {n n1:Nat} {f f1:Fr} {l l1:Lo} {p:Fr→Lo→Nat→Prop} {S:Act→World→Prop} (h:Zme N G w0 v0 n f l p S) (hn:n≤n1) (ho:Old n f l f1 l1):Zme N G w0 v0 n1 f1 l1 p S :=
 λf' l' n' a' w' hp hn' ho' hr=>h f' l' n' a' w' hp (by omega) (ho.trans ho' hn) hr
theorem draw_ok {C:Cf} (hC:CfOK C) {α:Type} {r:α} {id:Nat} {ops:Array Oper} {f:Fr} {l:Lo} {n:Nat} {K:Fr→Lo→Nat→Option α} {Q:Exit→Act→World→Prop} {a:Act} {w:World} (hm:C.P.follows .mixedOrders=true) (hb:Zce 0 ops.toList=true) (hds:∀ o ∈ ops.toList,∀ k,o.dst=some k→k<N)
  (h:(Zqf C ops.toList ops.toList f l n λf l n ps=>match Z7d [] (Z1a ops.toList []) ps with
   | true=>K f l n
   | false=>none)=some r) (hr:Rel N G w0 v0 (· < n) f l a w) (hQ:Zme N G w0 v0 n f l (λf l n=>K f l n=some r) (Q .normal)):(Code.region id ops true).wp C.P Q a w:=by
 obtain⟨Ts,h1,h2,h3,h4⟩:=ZPl h;split at h4
 ·rename_i hch;have hn:(l.map En.k).Nodup:=by obtain⟨_,_,_,hr⟩:=hr;exact hr.nd
  refine wp_region_any hm ?_;have hz:∀ j,(Array.replicate ops.size false).getD j false=false:=λj=>getD_replicate_false _ _;have hl:left (Array.replicate ops.size false)=ops.size:=by simp[left]
  refine Z6w hC (Ts:=Ts) hb hds h1 hn h2 h3 hch (λa' w' hr'=>hQ _ _ _ a' w' h4 (by omega) (ZNk (Nat.le_refl n) h1 h2 hn h3) hr') ops.size _ a w.drew hl ⟨by simp,λj o _ hj=>?_,f,l,?_,λt=>?_,λt=>?_⟩
  ·rw[hz]at hj;cases hj
  ·obtain⟨γ,v,ℓ,hr⟩:=hr.draw;exact⟨γ,v,ℓ,hr.mono (λ_ h=>.inl h) λ_ h=>.inl h⟩
  ·exact (ZNe λj _ _ hs=>by rw[show sel _ _=false from hz _]at hs;cases hs).symm
  ·exact (ZNe λj _ _ hs=>by rw[show sel _ _=false from hz _]at hs;cases hs).symm
 ·cases h4
def Z4f (C:Cf) (cf:CallF):Prop:=∀ {α:Type} {g:FuncId} {ags:V} {l:Lo} {n:Nat} {K:V→Lo→Nat→Option α} {r:α},cf α g ags l n K=some r→∀ {N:Nat} {G:V→Value→Prop} {w0:Base} {v0:Zb} {a:Act} {w:World} {γ:Nat→Gh} {v:Zb} {ℓ:List Loc} {vals:List Value},
 RelX N G w0 v0 (· < n) (· < n) [] l a w γ v ℓ→RR v γ l true ags vals→ags.ok (· < n)→ZB C.P g∧Calls C.P g vals.toArray w λe w'=>∃ y c l' n' γ' v' ℓ',e = .returned y∧K c l' n'=some r∧n≤n'∧(∀ f,Old n f l f l')∧RelX N G w0 v0 (· < n') (· < n') [] l' a w' γ' v' ℓ'∧RV v' γ' l' (ZAd c) y∧(ZAd c).ok (· < n')
theorem ZAp {U X:Nat→Prop} {f:Fr} {l:Lo} {a:Act} {w:World} {γ:Nat→Gh} {v:Zb} {ℓ:List Loc} (hr:RelX N G w0 v0 U X f l a w γ v ℓ):∀ {xs:List Operand} {c:V},Zqk f xs=some c→RR v γ l true c (xs.map a.eval)∧c.ok U
 | [],c,h=>by cases h;exact⟨rfl,trivial⟩
 | x :: xs,c,h=>by
  simp only[Zqk]at h
  split at h
  ·cases h
  ·rename_i V1 c1 hnt h1 h2
   cases h
   obtain⟨q1,q2⟩:=ZMm hr h1
   obtain⟨q3,q4⟩:=ZAp hr h2
   obtain⟨cs,hcs,hqe⟩:=ZKb q1 (λc e=>hnt c (by rw[e]))
   exact⟨⟨cs,_,by rw[List.map_cons,hqe],hcs,q3⟩,q2,q4⟩
  ·cases h
theorem ZKq {v:Zb} {γ:Nat→Gh} {l:Lo} {U:Nat→Prop}:∀ {c d:V} {xs ys:List Value},RR v γ l true c xs→RR v γ l true d ys→c.ok U→d.ok U→RR v γ l true (appV c d) (xs++ys)∧(appV c d).ok U
 | .nl,d,xs,ys,h,k,_,kd=>by rw[show xs=[] from h];exact⟨k,kd⟩
 | .cons a b,d,xs,ys,⟨cs,zs,e1,e2,e3⟩,k,kc,kd=>by
  subst e1
  obtain⟨q1,q2⟩:=ZKq (c:=b) e3 k kc.2 kd
  exact⟨⟨cs,_,rfl,e2,q1⟩,kc.1,q2⟩
theorem inl1_ok {C:Cf} {cf:CallF} (hcf:Z4f C cf) {α:Type} {r:α} {o:Oper} {g:FuncId} {ags:V} {f0 f:Fr} {l:Lo} {n:Nat} {K:Fr→Lo→Nat→Option α} {a:Act} {w:World} {γ:Nat→Gh} {v:Zb} {ℓ:List Loc} (hi:ZZi C f0 o=some (g,ags)) (h:inl1 cf o g ags f l n K=some r)
  (hr0:RelX N G w0 v0 (· < n) (· < n) f0 l a w γ v ℓ) (hr:RelX N G w0 v0 (· < n) (· < n) f l a w γ v ℓ) (hd:∀ k,o.dst=some k→k<N):ZDb C.P o a w λx w'=>∃ f' l' n',K f' l' n'=some r∧n≤n'∧Old n f l f' l'∧Rel N G w0 v0 (· < n') f' l' (a.put o.dst x) w':=by
 obtain⟨d,op,ty,pos,aft,gd⟩:=o;unfold ZZi at hi;split at hi
 ·rename_i c hop;have hop:op = .call c:=hop;subst hop;obtain⟨callee,args,ats⟩:=c;split at hi
  ·rename_i x hx;have hx:callee = .value x:=hx;subst hx;split at hi
   ·rename_i g' cap hg;split at hi
    ·cases hi
    split at hi
    ·split at hi
     ·rename_i ags' has
      cases hi
      unfold inl1 at h
      cases d with
      | none=>cases h
      | some d =>
       obtain⟨q1,q2⟩:=ZMm hr0 hg;obtain⟨cs,⟨vs,q3,rfl⟩,q4⟩:=q1;have q4:a.eval x = .func (.func g) #[] vs.toArray:=q4;obtain⟨q5,q6⟩:=ZAp hr0 has;obtain⟨q7,q8⟩:=ZKq q5 q3 q6 q2;have hlt:∀ k,k<n→k<n+1:=λk h=>by omega
       let G':V→Value→Prop:=λx y=>G x y ∨ ∃ t e,lkE f t=some e∧x=e.x∧y=a.tmps.getD t undef
       have hrG:RelX N G' w0 v0 (· < n+1) (· < n+1) [] l a w γ v ℓ:=by
        have hm:=hr.mono hlt hlt;refine⟨hm.st,λt e he=>(by cases he),hm.lr,hm.nd,λt e he=>(by cases he),hm.ul,λx y hg=>?_⟩;rcases hg with hg | ⟨t,e,h1,rfl,rfl⟩
        ·exact hm.gh x y hg
        ·exact⟨hm.fr t e h1,(hm.uf t e h1).1⟩
       obtain⟨hen,hcalls⟩:=hcf h hrG q7 (V.ok.mono hlt q8);obtain⟨σ,hσ,hev⟩:=hr0.st.evs (x :: args.toList);have hfx:=hev x (by simp);rw[q4]at hfx;have hargs:args.toList.map (ev σ)=(args.toList.map a.eval).map some:=by
        rw[List.map_map];exact List.map_congr_left λy hy=>hev y (by simp[hy])
       have hrun:=ZDt (d:=some d) (ty:=ty) (pos:=pos) (aft:=aft) (g:=gd) (ats:=ats) hσ _ _ hen hfx hargs;refine ZFc hrun (Calls.mono hcalls λe w' ⟨y,c,l',n',γ',v',ℓ',e1,e2,e3,e4,e5,e6,e7⟩=>⟨y,e1,_,l',n',e2,by omega,((e4 f).mono (by omega)).trans (Old.put (Nat.le_refl n)) (Nat.le_refl n),γ',v',ℓ',?_⟩);have hr2:RelX N G w0 v0 (· < n') (· < n') f l' a w' γ' v' ℓ':=by
        refine⟨e5.st,λt e he=>(e5.gh _ _ (.inr ⟨t,e,he,rfl,rfl⟩)).1,e5.lr,e5.nd,λt e he=>⟨(e5.gh _ _ (.inr ⟨t,e,he,rfl,rfl⟩)).2,?_⟩,e5.ul,λx y hg=>e5.gh x y (.inl hg)⟩;have:=(hr.uf t e he).2;show e.st<n';have:e.st<n:=this;omega
       exact hr2.put (hd d rfl) e6 e7 (show n<n' by omega)
     ·cases hi
    ·cases hi
   ·cases hi
  ·cases hi
 ·cases hi
theorem inlG_ok {C:Cf} {cf:CallF} (hcf:Z4f C cf) {α:Type} {r:α} {ops:Array Oper} {o:Oper} {rest:List Oper} {g:FuncId} {ags:V} {f:Fr} {l:Lo} {n:Nat} {K:Fr→Lo→Nat→Option α} {Q:Exit→Act→World→Prop} {a:Act} {w:World} (hi:ZZi C f o=some (g,ags)) (h:inlG cf ops.toList o g ags f l n K=some r)
  (hr:Rel N G w0 v0 (· < n) f l a w) (hds:∀ o ∈ ops.toList,∀ k,o.dst=some k→k<N) (hd:∀ k,o.dst=some k→k<N) (hQ:Zme N G w0 v0 n f l (λf l n=>K f l n=some r) λa w=>wpList C.P ops Q rest a w):wpList C.P ops Q (o :: rest) a w:=by
 obtain⟨γ,v,ℓ,hr⟩:=hr;have yes:∀ {f1:Fr},Old n f l f1 l→RelX N G w0 v0 (· < n) (· < n) f1 l a w γ v ℓ→Region.wanted o (yielded ops a.tmps)=true→inl1 cf o g ags f1 l n K=some r→wpList C.P ops Q (o :: rest) a w:=λho hr1 hw h =>
  ZDc hw (Ztm (inl1_ok hcf hi h hr hr1 hd) λx w' ⟨f',l',n',e1,e2,e3,e4⟩=>hQ f' l' n' _ w' e1 e2 (ho.trans e3 (Nat.le_refl n)) e4)
 have no:∀ {f1:Fr},Old n f l f1 l→RelX N G w0 v0 (· < n) (· < n) f1 l a w γ v ℓ→Region.wanted o (yielded ops a.tmps)=false→ZFi o f1 l n K=some r→wpList C.P ops Q (o :: rest) a w:=λho hr1 hw h=>by
  have h1:=ZKh (Nat.le_refl n) Old.refl hr1.nd (Zkg h);obtain⟨f',l',⟨q1,q2⟩,q3⟩:=Zdk (X:=(· < n+1)) (hr1.mono (λ_ h=>h) λk h=>(show k<n+1 by have:k<n:=h;omega)) (λk h=>(show k<n+1 by have:k<n:=h;omega)) (Nat.lt_succ_self n) hd h1;unfold wpList;rw[iN (by rw[hw];decide)];exact hQ f' l' _ _ w q1 (by omega) (ho.trans q2 (Nat.le_refl n)) q3
 unfold inlG at h;split at h
 ·rename_i hg;exact yes Old.refl hr (ZVb hg) h
 ·rename_i j want hg;split at h
  ·rename_i q hq;split at h
   ·rename_i t ht;have htN:t<N:=hds q (mG hq) t ht;have hgd:(ops[j]?).bind (·.dst)=some t:=by rw[← Array.getElem?_toList,hq];exact ht
    obtain⟨σ,hσ,hev⟩:=hr.st.evs [.tmp t];have hl:look σ t=some (a.tmps.getD t undef):=hev (.tmp t) (by simp);split at h
    ·rename_i ek s b he;have hk:ek=t:=(Zt he).2;subst hk;have h2:a.tmps.getD ek undef = .bool b:=Zwf (hr.fr ek _ he);rw[h2]at hl;have hdup:=RelX.dup hr he;have hold:=Old.dup (m:=n) (l:=l) he
     cases want <;> cases b
     ·exact yes hold hdup (ZKd hσ hg hgd hl htN) h
     ·exact no hold hdup (Zph hσ hg hgd hl htN) h
     ·exact no hold hdup (Zph hσ hg hgd hl htN) h
     ·exact yes hold hdup (ZKd hσ hg hgd hl htN) h
    ·rename_i ek s he;have hk:ek=t:=(Zt he).2;subst hk;obtain⟨cs,h1,h2⟩:=hr.fr ek _ he;have h1:cs=[undef]:=h1;subst h1;have h2:a.tmps.getD ek undef=undef:=h2;rw[h2]at hl;exact no Old.refl hr (Zle hσ hg hgd hl htN) h
    ·cases h
   ·cases h
  ·cases h
theorem ZWj {C:Cf} (hC:CfOK C) {cf:CallF} (hcf:Z4f C cf) {α:Type} {r:α} {ops:Array Oper} {Q:Exit→Act→World→Prop} (hds:∀ o ∈ ops.toList,∀ k,o.dst=some k→k<N) {K:Fr→Lo→Nat→Option α}:∀ {os:List Oper} {f:Fr} {l:Lo} {n:Nat} {a:Act} {w:World},iops C cf ops.toList os f l n K=some r→(∀ o ∈ os,o ∈ ops.toList) →
  Rel N G w0 v0 (· < n) f l a w→Zme N G w0 v0 n f l (λf l n=>K f l n=some r) (Q .normal)→wpList C.P ops Q os a w
 | [],f,l,n,a,w,h,_,hr,hQ=>hQ f l n a w h (Nat.le_refl n) Old.refl hr
 | o :: os,f,l,n,a,w,h,hos,hr,hQ=>by
  have hd:=hds o (hos o (by simp))
  simp only[iops]at h
  split at h
  ·obtain⟨γ,v,ℓ,hr⟩:=hr
   have h1:=ZKh (Nat.le_refl n) Old.refl hr.nd (Zkg h)
   refine (Z1k hC (X:=(· < n+1)) (hr.mono (λ_ h=>h) λk h=>(show k<n+1 by have:k<n:=h;omega)) (λk h=>(show k<n+1 by have:k<n:=h;omega)) (Nat.lt_succ_self n) (Nat.lt_irrefl n) hds hd h1).list λf' l' a' w' ⟨q1,q2⟩ q3=>?_
   exact ZWj hC hcf hds q1 (λo ho=>hos o (by simp[ho])) q3 (hQ.step (by omega) q2)
  ·rename_i g ags hi
   refine inlG_ok hcf hi h hr hds hd λf' l' n' a' w' q1 q2 q3 q4=>?_
   exact ZWj hC hcf hds q1 (λo ho=>hos o (by simp[ho])) q4 (hQ.step q2 q3)
theorem Zex {C:Cf} (hC:CfOK C) {cf:CallF} (hcf:Z4f C cf) {α:Type} {r:α} {id:Nat} {ops:Array Oper} {o:Oper} {f:Fr} {l:Lo} {n:Nat} {K:Fr→Lo→Nat→Option α} {Q:Exit→Act→World→Prop} {a:Act} {w:World} (ho:ZYj ops.toList=some o) (hm:C.P.follows .mixedOrders=true) (hb:Zce 0 ops.toList=true) (hds:∀ o ∈ ops.toList,∀ k,o.dst=some k→k<N)
  (h:(Zqf C ops.toList ops.toList.dropLast f l n λf l n ps=>match Z7d [] (Z1a ops.toList.dropLast []) ps with
   | true=>iops C cf ops.toList [o] f l n K
   | false=>none)=some r) (hr:Rel N G w0 v0 (· < n) f l a w) (hQ:Zme N G w0 v0 n f l (λf l n=>K f l n=some r) (Q .normal)):(Code.region id ops true).wp C.P Q a w:=by
 obtain⟨Ts,h1,h2,h3,h4⟩:=ZPl h;obtain⟨he,hg,hanc⟩:=ZYv ho;split at h4
 ·rename_i hch;have hn:(l.map En.k).Nodup:=by obtain⟨_,_,_,hr⟩:=hr;exact hr.nd
  have hsz:ops.size=ops.toList.dropLast.length+1:=by
   have:=congrArg List.length he;simp at this ⊢;omega
  have hin:∀ o ∈ ops.toList.dropLast,o ∈ ops.toList:=λo ho=>by rw[← he];exact List.mem_append_left _ ho
  have hol:o ∈ ops.toList:=by rw[← he];simp
  refine wp_region_any hm ?_;have hz:∀ j,(Array.replicate ops.size false).getD j false=false:=λj=>getD_replicate_false _ _;have hl:left (Array.replicate ops.size false)=ops.toList.dropLast.length+1:=by rw[← hsz];simp[left]
  have key:=ZXx (G:=G) (w0:=w0) (v0:=v0) (Q:=Q) hC (Ts:=Ts) he hg hanc hb hds h1 hn h2 h3 hch (λa' w' hr'=>?_) ops.toList.dropLast.length (Array.replicate ops.size false) a w.drew hl ?_ ⟨by simp,λj o _ hj=>?_,f,l,?_,λt=>?_,λt=>?_⟩
  ·rw[← hsz]at key;exact key
  ·have hold:=ZNk (Nat.le_refl n) h1 h2 hn h3;exact ZWj hC hcf hds h4 (λo' ho'=>by rcases List.mem_singleton.1 ho' with rfl;exact hol) hr' (hQ.step (by omega) hold)
  ·rw[Z3b (by rw[Array.size_replicate];omega)];exact hz _
  ·rw[hz]at hj;cases hj
  ·obtain⟨γ,v,ℓ,hr⟩:=hr.draw;exact⟨γ,v,ℓ,hr.mono (λ_ h=>.inl h) λ_ h=>.inl h⟩
  ·exact (ZNe λj _ _ hs=>by rw[show sel _ _=false from hz _]at hs;cases hs).symm
  ·exact (ZNe λj _ _ hs=>by rw[show sel _ _=false from hz _]at hs;cases hs).symm
 ·cases h4
theorem ZVi {K:Nat}:∀ {os:List Oper},ZYg K os=true→∀ o ∈ os,∀ k,o.dst=some k→k<K
 | [],_,_,h,_,_=>by cases h
 | o :: os,h,o',ho',k,hk=>by
  simp only[ZYg]at h
  rcases List.mem_cons.1 ho' with rfl | ho'
  ·rw[hk]at h
   simp only at h
   split at h
   ·rename_i hb;exact lB hb
   ·cases h
  ·have h':ZYg K os=true:=by
    split at h
    ·split at h
     ·exact h
     ·cases h
    ·exact h
   exact ZVi h' o' ho' k hk
end
end Go.Eng
namespace Go.Eng
open Go.RowKit
theorem Z3f {x:V} {c:CT} {cs:List Value} (h:x.isAgg=c.isAgg):x.val cs=c.vl cs:=by
 unfold V.val CT.vl;rw[h]
 cases c.isAgg <;> rfl
theorem Zjn {v v':Zb} (h:v.le v'):∀ {c:CT} {m:Bool} {x:c.den} {cs:List Value} {es:List Loc},CR v c m x cs es→CR v' c m x cs es:=by
 intro c
 induction c with
 | dat t=>intro m x cs es k;cases m <;> first | exact⟨Rep.mono _ h k.1,k.2⟩ | exact k
 | own ty t =>
  intro m x cs es k;cases m
  ·obtain⟨ob,cap,d,h1,h2,h3⟩:=k;exact⟨ob,cap,d,h1,ZR h h2,h3⟩
  ·exact k
 | mat ty ty2 t =>
  intro m x cs es k;cases m
  ·obtain⟨ob,cap,rows,es2,h1,h2,h3⟩:=k;exact⟨ob,cap,rows,es2,h1,ZLc h h2,h3⟩
  ·exact k
 | nl=>intro m x cs es k;cases m <;> exact k
 | one a ih =>
  intro m x cs es k;cases m
  ·exact ih (m:=false) k
  ·obtain⟨c,h1,h2⟩:=k;exact⟨c,h1,ih h2⟩
 | cons a b ia ib =>
  intro m x cs es k;cases m
  ·obtain⟨c1,c2,e1,e2,h1,h2,h3,h4⟩:=k;exact⟨c1,c2,e1,e2,h1,h2,ia h3,ib h4⟩
  ·obtain⟨c1,c2,e1,e2,h1,h2,h3,h4⟩:=k;exact⟨c1,c2,e1,e2,h1,h2,ia h3,ib h4⟩
 | agg c ih=>intro m x cs es k;cases m <;> first | exact ih (m:=false) k | exact k
 | box ty c ih =>
  intro m x cs es k;cases m
  ·obtain⟨b,c1,e1,h1,h2,h3,h4⟩:=k;exact⟨b,c1,e1,h1,ih h2,h3,h4⟩
  ·exact k
theorem ZNd {α:Type} {ex es r:List α}:(ex++(es++r)).Perm (es++(ex++r)):=by
 rw[← aAq,← aAq];exact List.Perm.append_right _ List.perm_append_comm
section
variable {N:Nat} {G:V→Value→Prop} {w0:Base} {v0:Zb} {U X:Nat→Prop} {f:Fr} {a:Act} {w:World} {n:Nat}
theorem ZMt {ρ:Type} {g:Nat} {t:T} {x:V} {k:t.den→Ev ρ} {l:Lo} {Post:ρ→Fr→Lo→Prop} {v:Zb} {γ:Nat→Gh} {m:Bool} {cs:List Value} (h:Zl n (conv g t x k) f l Post) (hr:RR v γ l m x cs):m=false:=by
 cases m with
 | false=>rfl
 | true =>
  cases g with
  | zero=>exact h.elim
  | succ g=>cases x <;> first | exact hr.elim | (simp only[conv]at h;exact h.elim)
theorem ZBe {ρ:Type} (hn:¬ U n) (hX:X n):∀ (g:Nat) {c:CT} {x:V} {K:c.den→Ev ρ} {l:Lo} {Post:ρ→Fr→Lo→Prop} {γ:Nat→Gh} {v:Zb} {ℓ ex:List Loc} {m:Bool} {cs:List Value},
  Zl n (Zea g c x K) f l Post→RelX N G w0 v0 U X f l a w γ v ℓ→St N w0 v0 [] (ex++ℓ) v a w→x.ok U→RR v γ l m x cs →
  ∃ z l' γ' v' ℓ' es,Zl n (K z) f l' Post∧RelX N G w0 v0 U X f l' a w γ' v' ℓ'∧St N w0 v0 [] (es++(ex++ℓ')) v' a w∧Le U v γ l v' γ' l'∧CR v' c m z cs es∧x.isAgg=c.isAgg
 | 0,_,_,_,_,_,_,_,_,_,_,_,h,_,_,_,_=>h.elim
 | g+1,c,x,K,l,Post,γ,v,ℓ,ex,m,cs,h,hr,hex,hk,hx=>by
  obtain⟨E,hE,_⟩:=hr.lr
  have rfl':Le U v γ l v γ l:=Le.refl hE (Zb.le_refl _)
  cases c with
  | dat t =>
   simp only[Zea]at h
   have hm:=ZMt h hx
   subst hm
   have hag:=Zhf FU h
   obtain⟨y,l1,γ1,v1,ℓ1,k1,k2,k3,k4,k5⟩:=Zkb hn hX FU h hr hex hk
   exact⟨y,l1,γ1,v1,ℓ1,[],k1,k2,k3,k4,⟨k5 _ hx,rfl⟩,hag⟩
  | own ty t =>
   cases x with
   | own u =>
    cases m with
    | true=>exact hx.elim
    | false =>
    simp only[Zea]at h
    obtain⟨e,he,h⟩:=h
    obtain⟨kk,st,L⟩:=e
    have hkk:kk=u:=(Zt he).2
    subst hkk
    obtain⟨y,rfl,_,hy⟩:=hx
    have hy:=hy _ he
    obtain⟨es,E',h1,_,_,h3,h4⟩:=hr.del he
    cases L with
    | own ty' t' xs fz =>
     cases fz with
     | true=>exact h.elim
     | false =>
      simp only at h
      split at h
      ·rename_i ys hty hcast
       have hty:=eQ hty
       subst hty
       obtain⟨c3,c4⟩:=Z2 hcast
       cases c3;cases c4
       obtain⟨ob,cap,d,g1,g2,rfl⟩:=h1
       have g1:γ kk = .own ob cap:=g1
       obtain⟨ob',cap',g3,g4⟩:=hy
       rw[g1]at g3;cases g3
       exact⟨_,_,_,_,_,_,h,h4,hex.perm ((List.Perm.append_left ex h3).trans ZNd),Le.era hr kk,⟨ob,cap,d,by rw[g4],g2,rfl⟩,rfl⟩
      ·exact h.elim
    | box _ _=>exact h.elim
    | mid _ _ _ _ _ _=>exact h.elim
    | mat _ _ _ _ _=>exact h.elim
   | nilS =>
    cases m with
    | true=>exact hx.elim
    | false =>
    simp only[Zea]at h
    have hx:cs=[.slice none 0 0]:=hx
    subst hx
    exact⟨_,l,γ,v,ℓ,[.own none ty t.n 0 0 []],h,hr,hex.nilLoc ty t.n,rfl',⟨none,0,[],rfl,rfl,rfl⟩,rfl⟩
   | _=>simp only[Zea]at h;exact h.elim
  | mat ty ty2 t =>
   cases x with
   | own u =>
    cases m with
    | true=>exact hx.elim
    | false =>
    simp only[Zea]at h
    obtain⟨e,he,h⟩:=h
    obtain⟨kk,st,L⟩:=e
    have hkk:kk=u:=(Zt he).2
    subst hkk
    obtain⟨y,rfl,_,hy⟩:=hx
    have hy:=hy _ he
    obtain⟨es,E',h1,_,_,h3,h4⟩:=hr.del he
    cases L with
    | mat ty' ty2' t' mm hv =>
     simp only at h
     split at h
     ·rename_i m' hty hty2 hcast
      have hty:=eQ hty
      have hty2:=eQ hty2
      subst hty hty2
      obtain⟨c3,c4⟩:=Z2 hcast
      cases c3;cases c4
      obtain⟨ob,cap,rows,es2,g1,g2,rfl⟩:=h1
      have g1:γ kk = .mat ob cap rows:=g1
      obtain⟨ob',cap',rows',g3,g4⟩:=hy
      rw[g1]at g3;cases g3
      exact⟨_,_,_,_,_,_,h,h4,hex.perm ((List.Perm.append_left ex h3).trans ZNd),Le.era hr kk,⟨ob,cap,rows,es2,by rw[g4],g2,rfl⟩,rfl⟩
     ·exact h.elim
    | box _ _=>exact h.elim
    | mid _ _ _ _ _ _=>exact h.elim
    | own _ _ _ _=>exact h.elim
   | nilS =>
    cases m with
    | true=>exact hx.elim
    | false =>
    simp only[Zea]at h
    have hx:cs=[.slice none 0 0]:=hx
    subst hx
    exact⟨_,l,γ,v,ℓ,[.own none ty 1 0 0 []],h,hr,hex.nilLoc ty 1,rfl',⟨none,0,[],[],rfl,rfl,rfl⟩,rfl⟩
   | _=>simp only[Zea]at h;exact h.elim
  | nl =>
   cases x with
   | nl =>
    simp only[Zea]at h
    have hx:cs=[]:=by cases m <;> exact hx
    exact⟨_,l,γ,v,ℓ,[],h,hr,hex,rfl',(by cases m <;> exact⟨hx,rfl⟩),rfl⟩
   | _=>simp only[Zea]at h;exact h.elim
  | one c =>
   cases x with
   | cons x1 x2 =>
    cases x2 with
    | nl =>
     simp only[Zea]at h
     cases m with
     | false =>
      obtain⟨c1,c2,rfl,h1,h2⟩:=hx
      have h2:c2=[]:=h2
      subst h2
      obtain⟨z,l1,γ1,v1,ℓ1,es,k1,k2,k3,k4,k5,k6⟩:=ZBe hn hX g h hr hex hk.1 h1
      exact⟨z,l1,γ1,v1,ℓ1,es,k1,k2,k3,k4,(by rw[List.append_nil];exact k5),rfl⟩
     | true =>
      obtain⟨c1,xs,rfl,h1,h2⟩:=hx
      have h2:xs=[]:=h2
      subst h2
      obtain⟨z,l1,γ1,v1,ℓ1,es,k1,k2,k3,k4,k5,k6⟩:=ZBe hn hX g h hr hex hk.1 h1
      exact⟨z,l1,γ1,v1,ℓ1,es,k1,k2,k3,k4,⟨c1,(by rw[Z3f k6]),k5⟩,rfl⟩
    | _=>simp only[Zea]at h;exact h.elim
   | _=>simp only[Zea]at h;exact h.elim
  | cons c d =>
   cases x with
   | cons x1 x2 =>
    simp only[Zea]at h
    have step:∀ {c1:List Value} {m2:Bool} {c2:List Value},RR v γ l false x1 c1→RR v γ l m2 x2 c2→∃ z l' γ' v' ℓ' e1 e2,Zl n (K z) f l' Post∧RelX N G w0 v0 U X f l' a w γ' v' ℓ'∧St N w0 v0 [] ((e1++e2)++(ex++ℓ')) v' a w∧Le U v γ l v' γ' l'∧CR v' c false z.1 c1 e1∧CR v' d m2 z.2 c2 e2∧x1.isAgg=c.isAgg:=by
     intro c1 m2 c2 h1 h2;obtain⟨z1,l1,γ1,v1,ℓ1,e1,k1,k2,k3,k4,k5,k6⟩:=ZBe hn hX g h hr hex hk.1 h1;obtain⟨z2,l2,γ2,v2,ℓ2,e2,q1,q2,q3,q4,q5,q6⟩:=ZBe hn hX g (ex:=e1++ex) k1 k2 (by rw[aAq];exact k3) hk.2 (Zsb k4 hk.2 h2);refine⟨(z1,z2),l2,γ2,v2,ℓ2,e1,e2,q1,q2,q3.perm ?_,k4.trans q4,Zjn q4.v k5,q5,k6⟩;rw[aAq,aAq];exact ZNd
    cases m with
    | false =>
     obtain⟨c1,c2,rfl,h1,h2⟩:=hx;obtain⟨z,l1,γ1,v1,ℓ1,e1,e2,k1,k2,k3,k4,k5,k6,k7⟩:=step h1 h2;exact⟨z,l1,γ1,v1,ℓ1,_,k1,k2,k3,k4,⟨c1,c2,e1,e2,rfl,rfl,k5,k6⟩,rfl⟩
    | true =>
     obtain⟨c1,xs,rfl,h1,h2⟩:=hx;obtain⟨z,l1,γ1,v1,ℓ1,e1,e2,k1,k2,k3,k4,k5,k6,k7⟩:=step h1 h2;exact⟨z,l1,γ1,v1,ℓ1,_,k1,k2,k3,k4,⟨c1,xs,e1,e2,by rw[Z3f k7],rfl,k5,k6⟩,rfl⟩
   | _=>simp only[Zea]at h;exact h.elim
  | agg c =>
   cases x with
   | agg x1 =>
    cases m with
    | true=>exact hx.elim
    | false =>
    simp only[Zea]at h;obtain⟨z,l1,γ1,v1,ℓ1,es,k1,k2,k3,k4,k5,k6⟩:=ZBe hn hX g (x:=x1) (m:=false) h hr hex hk hx;exact⟨z,l1,γ1,v1,ℓ1,es,k1,k2,k3,k4,k5,rfl⟩
   | _=>simp only[Zea]at h;exact h.elim
  | box ty c =>
   cases x with
   | ptr u off =>
    cases off with
    | succ k=>simp only[Zea]at h;exact h.elim
    | zero =>
    cases m with
    | true=>exact hx.elim
    | false =>
    simp only[Zea]at h;obtain⟨e,he,h⟩:=h;obtain⟨kk,st,L⟩:=e;obtain⟨hm,hkk⟩:=Zt he;have hkk:kk=u:=hkk;subst hkk;obtain⟨y,rfl,_,hy⟩:=hx;have hy:=hy _ he;obtain⟨es,E',h1,_,_,h3,h4⟩:=hr.del he
    cases L with
    | box ty' x1 =>
     simp only at h;split at h
     ·rename_i hty;have hty:=eQ hty;subst hty;obtain⟨b,c1,g1,g2,g3,rfl⟩:=h1;have g1:γ kk = .box b:=g1;obtain⟨b',g4,g5⟩:=hy;rw[g1]at g4;cases g4;have hk1:x1.ok U:=(hr.ul _ hm).2.2;obtain⟨z,l1,γ1,v1,ℓ1,e1,k1,k2,k3,k4,k5,k6⟩:=ZBe hn hX g (ex:=.box b ty c1 :: ex) h h4 (hex.perm ((List.Perm.append_left ex h3).trans ZNd)) hk1 (Zsb (Le.era hr kk) hk1 g2);refine⟨z,l1,γ1,v1,ℓ1,.box b ty c1 :: e1,k1,k2,k3.perm ?_,(Le.era hr kk).trans k4,⟨b,c1,e1,by rw[g5],k5,g3,rfl⟩,rfl⟩;exact List.perm_middle
     ·exact h.elim
    | own _ _ _ _=>exact h.elim
    | mid _ _ _ _ _ _=>exact h.elim
    | mat _ _ _ _ _=>exact h.elim
   | _=>simp only[Zea]at h;exact h.elim
theorem ZEx {ρ:Type} {g:Nat} {c:CT} {q:V} {K:c.den→Ev ρ} {l:Lo} {Post:ρ→Fr→Lo→Prop} (h:Zl n (Zea g c (.tup q) K) f l Post):False:=by
 cases g with
 | zero=>exact h
 | succ g =>
  cases c with
  | dat t =>
   simp only[Zea]at h;have:∀ (g:Nat),Zl n (conv g t (.tup q) K) f l Post→False:=λg h=>by cases g <;> exact h
   exact this _ h
  | _=>simp only[Zea]at h;exact h
end
theorem F2.append {α β:Type} {R:α→β→Prop}:∀ {l l':List α} {m m':List β},F2 R l m→F2 R l' m'→F2 R (l++l') (m++m')
 | [],_,[],_,_,k=>k
 | _ :: _,_,_ :: _,_,h,k=>⟨h.1,F2.append h.2 k⟩
 | [],_,_ :: _,_,h,_=>h.elim
 | _ :: _,_,[],_,h,_=>h.elim
theorem ZRk {la lb:Lo} {γa γb:Nat→Gh} {γ:Nat→Gh} {l:Lo} (h:∀ e ∈ la++lb,γ e.k=(if e.k ∈ la.map En.k then γa e.k else γb e.k)∧lkE l e.k=some e):∀ e ∈ la,γ e.k=γa e.k∧lkE l e.k=some e:=λe he=>by
 obtain⟨h1,h2⟩:=h e (List.mem_append_left _ he)
 rw[iP (List.mem_map.2 ⟨e,he,rfl⟩)]at h1
 exact⟨h1,h2⟩
theorem ZUl {la lb:Lo} {γa γb:Nat→Gh} {γ:Nat→Gh} {l:Lo} (hd:∀ e ∈ lb,e.k ∉ la.map En.k) (h:∀ e ∈ la++lb,γ e.k=(if e.k ∈ la.map En.k then γa e.k else γb e.k)∧lkE l e.k=some e):∀ e ∈ lb,γ e.k=γb e.k∧lkE l e.k=some e:=λe he=>by
 obtain⟨h1,h2⟩:=h e (List.mem_append_right _ he)
 rw[iN (hd e he)]at h1
 exact⟨h1,h2⟩
theorem Zuj {la lb:Lo} (ha:(la.map En.k).Nodup) (hb:(lb.map En.k).Nodup) (hd:∀ e ∈ lb,e.k ∉ la.map En.k):((la++lb).map En.k).Nodup:=by
 rw[List.map_append];refine List.nodup_append.2 ⟨ha,hb,λx hx y hy e=>?_⟩;subst e;obtain⟨e,he,rfl⟩:=List.mem_map.1 hy;exact hd e he hx
theorem ZDr {v:Zb}:∀ (c:CT) {m:Bool} {z:c.den} {cs:List Value} {es:List Loc} (n:Nat) {x:V} {l2:Lo} {n2:Nat},CR v c m z cs es→Zk c z n=(x,l2,n2) →
  n≤n2∧(∀ e ∈ l2,n≤e.k∧e.k<n2∧n≤e.st∧e.st<n2∧e.x.ok (· < n2) (· < n2))∧(l2.map En.k).Nodup∧x.ok (· < n2)∧x.isAgg=c.isAgg ∧
  ∃ γ0:Nat→Gh,∀ (γ:Nat→Gh) (l:Lo),(∀ e ∈ l2,γ e.k=γ0 e.k∧lkE l e.k=some e)→RR v γ l m x cs∧∃ E,F2 (ZEa v γ l) l2 E∧es.Perm E.flatten:=by
 intro c
 induction c with
 | dat t =>
  intro m z cs es n x l2 n2 h hi
  cases m with
  | true=>exact h.elim
  | false =>
  cases hi
  obtain⟨h1,rfl⟩:=h;exact⟨Nat.le_refl _,λe he=>(by cases he),List.nodup_nil,trivial,rfl,λ_=>.box 0,λγ l _=>⟨h1,[],trivial,List.Perm.refl _⟩⟩
 | own ty t =>
  intro m z cs es n x l2 n2 h hi
  cases m with
  | true=>exact h.elim
  | false =>
  cases hi
  obtain⟨ob,cap,d,rfl,h2,rfl⟩:=h;refine⟨Nat.le_succ _,λe he=>?_,?_,Nat.lt_succ_self n,rfl,λ_=>.own ob cap,λγ l hl=>?_⟩
  ·rcases List.mem_singleton.1 he with rfl;exact⟨Nat.le_refl _,Nat.lt_succ_self _,Nat.le_refl _,Nat.lt_succ_self _,trivial⟩
  ·exact List.nodup_cons.2 ⟨by simp,List.nodup_nil⟩
  ·obtain⟨hg,hlk⟩:=hl _ (List.mem_singleton.2 rfl);refine⟨⟨_,rfl,rfl,λe he=>?_⟩,[_],⟨⟨ob,cap,d,hg,h2,rfl⟩,trivial⟩,List.Perm.refl _⟩;rw[show lkE l n=_ from hlk]at he;cases he;exact⟨ob,cap,hg,rfl⟩
 | mat ty ty2 t =>
  intro m z cs es n x l2 n2 h hi
  cases m with
  | true=>exact h.elim
  | false =>
  cases hi
  obtain⟨ob,cap,rows,es2,rfl,h2,rfl⟩:=h;refine⟨Nat.le_succ _,λe he=>?_,?_,Nat.lt_succ_self n,rfl,λ_=>.mat ob cap rows,λγ l hl=>?_⟩
  ·rcases List.mem_singleton.1 he with rfl;exact⟨Nat.le_refl _,Nat.lt_succ_self _,Nat.le_refl _,Nat.lt_succ_self _,Nat.lt_succ_self n⟩
  ·exact List.nodup_cons.2 ⟨by simp,List.nodup_nil⟩
  ·obtain⟨hg,hlk⟩:=hl _ (List.mem_singleton.2 rfl);refine⟨⟨_,rfl,rfl,λe he=>?_⟩,[_],⟨⟨ob,cap,rows,es2,hg,h2,rfl⟩,trivial⟩,by simp⟩;rw[show lkE l n=_ from hlk]at he;cases he;exact⟨ob,cap,rows,hg,rfl⟩
 | nl =>
  intro m z cs es n x l2 n2 h hi
  cases hi
  have h:cs=[]∧es=[]:=by cases m <;> exact h
  obtain⟨rfl,rfl⟩:=h;exact⟨Nat.le_refl _,λe he=>(by cases he),List.nodup_nil,trivial,rfl,λ_=>.box 0,λγ l _=>⟨by cases m <;> rfl,[],trivial,List.Perm.refl _⟩⟩
 | one c ih =>
  intro m z cs es n x l2 n2 h hi;have hi:((.cons (Zk c z n).1 .nl:V),(Zk c z n).2.1,(Zk c z n).2.2)=(x,l2,n2):=hi
  cases hi
  cases m with
  | false =>
   obtain⟨k1,k2,k3,k4,k5,γ0,k6⟩:=ih n (x:=(Zk c z n).1) (l2:=(Zk c z n).2.1) (n2:=(Zk c z n).2.2) h rfl;exact⟨k1,k2,k3,⟨k4,trivial⟩,rfl,γ0,λγ l hl=>⟨⟨cs,[],by simp,(k6 γ l hl).1,rfl⟩,(k6 γ l hl).2⟩⟩
  | true =>
   obtain⟨c1,rfl,h⟩:=h;obtain⟨k1,k2,k3,k4,k5,γ0,k6⟩:=ih n (x:=(Zk c z n).1) (l2:=(Zk c z n).2.1) (n2:=(Zk c z n).2.2) h rfl;exact⟨k1,k2,k3,⟨k4,trivial⟩,rfl,γ0,λγ l hl=>⟨⟨c1,[],by rw[Z3f k5],(k6 γ l hl).1,rfl⟩,(k6 γ l hl).2⟩⟩
 | cons c d ia ib =>
  intro m z cs es n x l2 n2 h hi;have hi:((.cons (Zk c z.1 n).1 (Zk d z.2 (Zk c z.1 n).2.2).1:V),(Zk c z.1 n).2.1++(Zk d z.2 (Zk c z.1 n).2.2).2.1,(Zk d z.2 (Zk c z.1 n).2.2).2.2)=(x,l2,n2):=hi
  cases hi
  have step:∀ {c1 c2:List Value} {m2:Bool} {e1 e2:List Loc},CR v c false z.1 c1 e1→CR v d m2 z.2 c2 e2→es=e1++e2→n≤(Zk d z.2 (Zk c z.1 n).2.2).2.2∧(∀ e ∈ (Zk c z.1 n).2.1++(Zk d z.2 (Zk c z.1 n).2.2).2.1,n≤e.k∧e.k<(Zk d z.2 (Zk c z.1 n).2.2).2.2∧n≤e.st∧e.st<(Zk d z.2 (Zk c z.1 n).2.2).2.2∧e.x.ok (· < (Zk d z.2 (Zk c z.1 n).2.2).2.2) (· < (Zk d z.2 (Zk c z.1 n).2.2).2.2))∧(((Zk c z.1 n).2.1++(Zk d z.2 (Zk c z.1 n).2.2).2.1).map En.k).Nodup∧((Zk c z.1 n).1.ok (· < (Zk d z.2 (Zk c z.1 n).2.2).2.2)∧(Zk d z.2 (Zk c z.1 n).2.2).1.ok (· < (Zk d z.2 (Zk c z.1 n).2.2).2.2))∧(Zk c z.1 n).1.isAgg=c.isAgg ∧
    ∃ γ0:Nat→Gh,∀ (γ:Nat→Gh) (l:Lo),(∀ e ∈ (Zk c z.1 n).2.1++(Zk d z.2 (Zk c z.1 n).2.2).2.1,γ e.k=γ0 e.k∧lkE l e.k=some e)→RR v γ l false (Zk c z.1 n).1 c1∧RR v γ l m2 (Zk d z.2 (Zk c z.1 n).2.2).1 c2∧∃ E,F2 (ZEa v γ l) ((Zk c z.1 n).2.1++(Zk d z.2 (Zk c z.1 n).2.2).2.1) E∧es.Perm E.flatten:=by
   intro c1 c2 m2 e1 e2 h1 h2 he;obtain⟨k1,k2,k3,k4,k5,γa,k6⟩:=ia n (x:=(Zk c z.1 n).1) (l2:=(Zk c z.1 n).2.1) (n2:=(Zk c z.1 n).2.2) h1 rfl;obtain⟨q1,q2,q3,q4,q5,γb,q6⟩:=ib (Zk c z.1 n).2.2 (x:=(Zk d z.2 (Zk c z.1 n).2.2).1) (l2:=(Zk d z.2 (Zk c z.1 n).2.2).2.1) (n2:=(Zk d z.2 (Zk c z.1 n).2.2).2.2) h2 rfl;have hd:∀ e ∈ (Zk d z.2 (Zk c z.1 n).2.2).2.1,e.k ∉ ((Zk c z.1 n).2.1).map En.k:=λe he hm=>by
    obtain⟨e',he',hk⟩:=List.mem_map.1 hm;have:=(k2 e' he').2.1;have:=(q2 e he).1;omega
   have up:∀ k,k<(Zk c z.1 n).2.2→k<(Zk d z.2 (Zk c z.1 n).2.2).2.2:=λk hk=>Nat.lt_of_lt_of_le hk q1;refine⟨Nat.le_trans k1 q1,λe he=>?_,Zuj k3 q3 hd,⟨V.ok.mono up k4,q4⟩,k5,λk=>if k ∈ ((Zk c z.1 n).2.1).map En.k then γa k else γb k,λγ l hl=>⟨(k6 γ l (ZRk hl)).1,(q6 γ l (ZUl hd hl)).1,?_⟩⟩
   ·rcases List.mem_append.1 he with he | he
    ·obtain⟨r1,r2,r3,r4,r5⟩:=k2 e he;exact⟨r1,up _ r2,r3,up _ r4,LV.ok.mono up up r5⟩
    ·obtain⟨r1,r2,r3,r4,r5⟩:=q2 e he;exact⟨Nat.le_trans k1 r1,r2,Nat.le_trans k1 r3,r4,r5⟩
   ·obtain⟨E1,g1,g2⟩:=(k6 γ l (ZRk hl)).2;obtain⟨E2,g3,g4⟩:=(q6 γ l (ZUl hd hl)).2;exact⟨E1++E2,g1.append g3,by rw[he,List.flatten_append];exact g2.append g4⟩
  cases m with
  | false =>
   obtain⟨c1,c2,e1,e2,rfl,he,h1,h2⟩:=h;obtain⟨k1,k2,k3,k4,k5,γ0,k6⟩:=step h1 h2 he;exact⟨k1,k2,k3,k4,rfl,γ0,λγ l hl=>⟨⟨c1,c2,rfl,(k6 γ l hl).1,(k6 γ l hl).2.1⟩,(k6 γ l hl).2.2⟩⟩
  | true =>
   obtain⟨c1,c2,e1,e2,rfl,he,h1,h2⟩:=h;obtain⟨k1,k2,k3,k4,k5,γ0,k6⟩:=step h1 h2 he;exact⟨k1,k2,k3,k4,rfl,γ0,λγ l hl=>⟨⟨c1,c2,by rw[Z3f k5],(k6 γ l hl).1,(k6 γ l hl).2.1⟩,(k6 γ l hl).2.2⟩⟩
 | agg c ih =>
  intro m z cs es n x l2 n2 h hi
  cases m with
  | true=>exact h.elim
  | false =>
  have hi:((.agg (Zk c z n).1:V),(Zk c z n).2.1,(Zk c z n).2.2)=(x,l2,n2):=hi
  cases hi
  obtain⟨k1,k2,k3,k4,k5,γ0,k6⟩:=ih (m:=false) n (x:=(Zk c z n).1) (l2:=(Zk c z n).2.1) (n2:=(Zk c z n).2.2) h rfl;exact⟨k1,k2,k3,k4,rfl,γ0,k6⟩
 | box ty c ih =>
  intro m z cs es n x l2 n2 h hi
  cases m with
  | true=>exact h.elim
  | false =>
  have hi:((.ptr n 0:V),(⟨n,n,.box ty (Zk c z (n+1)).1⟩ :: (Zk c z (n+1)).2.1:Lo),(Zk c z (n+1)).2.2)=(x,l2,n2):=hi
  cases hi
  obtain⟨b,c1,e1,rfl,h2,h3,rfl⟩:=h;obtain⟨k1,k2,k3,k4,k5,γ0,k6⟩:=ih (m:=false) (n+1) (x:=(Zk c z (n+1)).1) (l2:=(Zk c z (n+1)).2.1) (n2:=(Zk c z (n+1)).2.2) h2 rfl;have hd:∀ e ∈ (Zk c z (n+1)).2.1,e.k≠n:=λe he hk=>by have:=(k2 e he).1;omega
  refine⟨by omega,λe he=>?_,List.nodup_cons.2 ⟨λhm=>?_,k3⟩,(show n<_ by omega),rfl,λk=>if k=n then .box b else γ0 k,λγ l hl=>?_⟩
  ·rcases List.mem_cons.1 he with rfl | he
   ·exact⟨Nat.le_refl _,(show n<_ by omega),Nat.le_refl _,(show n<_ by omega),k4⟩
   ·obtain⟨r1,r2,r3,r4,r5⟩:=k2 e he;exact⟨by omega,r2,by omega,r4,r5⟩
  ·obtain⟨e,he,hk⟩:=List.mem_map.1 hm;exact hd e he hk
  ·obtain⟨hg,hlk⟩:=hl _ List.mem_cons_self;have hg:γ n = .box b:=by rw[show γ n=_ from hg];exact iP rfl
   obtain⟨q1,E,q2,q3⟩:=k6 γ l λe he=>by
    obtain⟨r1,r2⟩:=hl e (List.mem_cons_of_mem _ he);exact⟨r1.trans (iN (hd e he)),r2⟩
   refine⟨⟨_,rfl,rfl,λe he=>?_⟩,[_] :: E,⟨⟨b,c1,hg,q1,h3,rfl⟩,q2⟩,by rw[List.flatten_cons];exact List.Perm.cons _ q3⟩;rw[show lkE l n=_ from hlk]at he;cases he;exact⟨b,hg,rfl⟩
end Go.Eng
namespace Go.Eng
open Go.RowKit
theorem ZJx {v v':Zb} (h:v.le v') {c:CT} {z:c.den} {g:Gh} {es:List Loc} (k:CRL v c z g es):CRL v' c z g es:=by
 cases c with
 | own ty t=>obtain⟨ob,cap,d,h1,h2,h3⟩:=k;exact⟨ob,cap,d,h1,ZR h h2,h3⟩
 | mat ty ty2 t=>obtain⟨ob,cap,rows,es2,h1,h2,h3⟩:=k;exact⟨ob,cap,rows,es2,h1,ZLc h h2,h3⟩
 | box ty c=>obtain⟨b,c1,e1,h1,h2,h3,h4⟩:=k;exact⟨b,c1,e1,h1,Zjn h h2,h3,h4⟩
 | agg c=>cases c with
  | mat ty ty2 t=>obtain⟨ob,cap,rows,es2,h1,h2,h3⟩:=k;exact⟨ob,cap,rows,es2,h1,ZLc h h2,h3⟩
  | _=>exact k.elim
 | _=>exact k.elim
def ZGg (p:Nat→Prop) (h:Nat):(c:CT)→c.den→LV→Prop
 | .own ty t,z,L=>L = .own ty t z false
 | .mat ty ty2 t,z,L=>∃ hv,p hv∧L = .mat ty ty2 t z hv
 | .box ty _,_,L=>∃ x,L = .box ty x
 | .agg (.mat ty ty2 t),z,L=>L = .mat ty ty2 t z h
 | _,_,_=>False
theorem Ziv {U:Nat→Prop} {γ1 γ2 γ3:Nat→Gh} {u s1 s2 s3:Nat} {x1 x2 x3:LV} (c1:CE U γ1 γ2 u s1 s2 x1 x2) (c2:CE U γ2 γ3 u s2 s3 x2 x3):CE U γ1 γ3 u s1 s3 x1 x3:=CE.tr c1 c2
theorem Zxm {U U':Nat→Prop} {γ γ1 γ2:Nat→Gh} {u s s':Nat} {x x':LV} (hU:∀ k,U k→U' k) (hg:γ2 u=γ1 u) (c:CE U' γ γ1 u s s' x x'):CE U γ γ2 u s s' x x':=by
  cases x <;> cases x' <;> simp only[CE]at c ⊢
  · rw[hg,c]
  · exact⟨hg.trans c.1,c.2.1,c.2.2.1,λh=>c.2.2.2 (hU _ h)⟩
  all_goals first
    | (obtain⟨ob,cap,rows,a1,a2,a3⟩:=c;exact⟨ob,cap,rows,a1,hg.trans a2,a3⟩)
    | (obtain⟨a1,a2,⟨ob,cap,rows,rows',a3,a4,a5⟩,a6⟩:=c
       exact⟨a1,a2,⟨ob,cap,rows,rows',a3,hg.trans a4,λh=>a5 (hU _ h)⟩,λh=>a6 (hU _ h)⟩)
theorem CE_head {U:Nat→Prop} {γ γ':Nat→Gh} {u s s' n0 hh:Nat} {c:CT} {z:c.den} {L L':LV} {v:Zb} {es:List Loc} (hU:∀ k,n0≤k→¬ U k) (hs:n0≤s') (h:ZGg (λ_=>True) hh c z L) (h':ZGg (n0≤·) hh c z L') (hg:γ' u=γ u) (hc:CRL v c z (γ u) es):CE U γ γ' u s s' L L':=by
 cases c with
 | own ty t=>subst h;subst h';exact⟨hg,rfl,rfl,λe=>absurd e (hU _ hs)⟩
 | mat ty ty2 t =>
  obtain⟨hv,_,rfl⟩:=h;obtain⟨hv',h2,rfl⟩:=h';obtain⟨ob,cap,rows,es2,h3,h4,h5⟩:=hc;exact⟨rfl,rfl,⟨ob,cap,rows,rows,h3,hg.trans h3,λe=>absurd e (hU _ h2)⟩,λe=>absurd e (hU _ hs)⟩
 | box ty c=>obtain⟨x,rfl⟩:=h;obtain⟨x',rfl⟩:=h';exact hg
 | agg c=>cases c with
  | mat ty ty2 t =>
   subst h;subst h';obtain⟨ob,cap,rows,es2,h3,h4,h5⟩:=hc;exact⟨rfl,rfl,⟨ob,cap,rows,rows,h3,hg.trans h3,λ_=>⟨rfl,rfl,rfl⟩⟩,λe=>absurd e (hU _ hs)⟩
  | _=>exact h.elim
 | _=>exact h.elim
section
variable {N:Nat} {G:V→Value→Prop} {w0:Base} {v0:Zb} {U X:Nat→Prop} {f:Fr} {a:Act} {w:World} {n:Nat}
theorem ZQl {ρ:Type} (hn:¬ U n) (hX:X n) {hh:Nat} {c:CT} {u:Nat} (hu:U u) {K:c.den→Ev ρ} {l:Lo} {Post:ρ→Fr→Lo→Prop} {γ:Nat→Gh} {v:Zb} {ℓ ex:List Loc}
  (h:Zl n (ZHc hh c u K) f l Post) (hr:RelX N G w0 v0 U X f l a w γ v ℓ) (hex:St N w0 v0 [] (ex++ℓ) v a w) :
  ∃ z l' γ' v' ℓ' es e0,Zl n (K z) f l' Post∧RelX N G w0 v0 U X f l' a w γ' v' ℓ'∧St N w0 v0 [] (es++(ex++ℓ')) v' a w∧Le U v γ l v' γ' l'∧CRL v' c z (γ u) es∧lkE l u=some e0∧lkE l' u=none∧ZGg (λ_=>True) hh c z e0.x:=by
 cases c with
 | own ty t =>
  simp only[ZHc]at h;obtain⟨e,he,h⟩:=h;obtain⟨kk,st,L⟩:=e;have hkk:kk=u:=(Zt he).2;subst hkk;obtain⟨es,E',h1,_,_,h3,h4⟩:=hr.del he
  cases L with
  | own ty' t' xs fz =>
   cases fz with
   | true=>exact h.elim
   | false =>
    simp only at h;split at h
    ·rename_i ys hty hcast;have hty:=eQ hty;subst hty;obtain⟨c3,c4⟩:=Z2 hcast
     cases c3;cases c4
     obtain⟨ob,cap,d,g1,g2,rfl⟩:=h1;exact⟨_,_,_,_,_,_,_,h,h4,hex.perm ((List.Perm.append_left ex h3).trans ZNd),Le.era hr kk,⟨ob,cap,d,g1,g2,rfl⟩,he,Zhi (ZQb hr.nd).2,rfl⟩
    ·exact h.elim
  | box _ _=>exact h.elim
  | mid _ _ _ _ _ _=>exact h.elim
  | mat _ _ _ _ _=>exact h.elim
 | mat ty ty2 t =>
  simp only[ZHc]at h;obtain⟨e,he,h⟩:=h;obtain⟨kk,st,L⟩:=e;have hkk:kk=u:=(Zt he).2;subst hkk;obtain⟨es,E',h1,_,_,h3,h4⟩:=hr.del he
  cases L with
  | mat ty' ty2' t' mm hv =>
   simp only at h;split at h
   ·rename_i m' hty hty2 hcast;have hty:=eQ hty;have hty2:=eQ hty2;subst hty hty2;obtain⟨c3,c4⟩:=Z2 hcast
    cases c3;cases c4
    obtain⟨ob,cap,rows,es2,g1,g2,rfl⟩:=h1;exact⟨_,_,_,_,_,_,_,h,h4,hex.perm ((List.Perm.append_left ex h3).trans ZNd),Le.era hr kk,⟨ob,cap,rows,es2,g1,g2,rfl⟩,he,Zhi (ZQb hr.nd).2,hv,trivial,rfl⟩
   ·exact h.elim
  | box _ _=>exact h.elim
  | mid _ _ _ _ _ _=>exact h.elim
  | own _ _ _ _=>exact h.elim
 | box ty c =>
  simp only[ZHc]at h;obtain⟨e,he,h⟩:=h;obtain⟨kk,st,L⟩:=e;obtain⟨hm,hkk⟩:=Zt he;have hkk:kk=u:=hkk;subst hkk;obtain⟨es,E',h1,_,_,h3,h4⟩:=hr.del he
  cases L with
  | box ty' x1 =>
   simp only at h;split at h
   ·rename_i hty;have hty:=eQ hty;subst hty;obtain⟨b,c1,g1,g2,g3,rfl⟩:=h1;have hk1:x1.ok U:=(hr.ul _ hm).2.2;obtain⟨z,l1,γ1,v1,ℓ1,e1,k1,k2,k3,k4,k5,k6⟩:=ZBe hn hX FU (ex:=.box b ty c1 :: ex) h h4 (hex.perm ((List.Perm.append_left ex h3).trans ZNd)) hk1 (Zsb (Le.era hr kk) hk1 g2);refine⟨z,l1,γ1,v1,ℓ1,.box b ty c1 :: e1,_,k1,k2,k3.perm ?_,(Le.era hr kk).trans k4,⟨b,c1,e1,g1,k5,g3,rfl⟩,he,?_,x1,rfl⟩
    ·exact List.perm_middle
    ·cases hx:lkE l1 kk with
     | none=>rfl
     | some e' =>
      obtain⟨e,he2,_⟩:=k4.l kk e' hu hx;rw[Zhi (ZQb hr.nd).2]at he2;cases he2
   ·exact h.elim
  | own _ _ _ _=>exact h.elim
  | mid _ _ _ _ _ _=>exact h.elim
  | mat _ _ _ _ _=>exact h.elim
 | agg c=>cases c with
  | mat ty ty2 t =>
   simp only[ZHc]at h;obtain⟨e,he,h⟩:=h;obtain⟨kk,st,L⟩:=e;have hkk:kk=u:=(Zt he).2;subst hkk;obtain⟨es,E',h1,_,_,h3,h4⟩:=hr.del he
   cases L with
   | mat ty' ty2' t' mm hv =>
    simp only at h;split at h
    ·rename_i m' hty hty2 hcast hhv;have hty:=eQ hty;have hty2:=eQ hty2;have hhv:=eQ hhv;subst hty hty2 hhv;obtain⟨c3,c4⟩:=Z2 hcast
     cases c3;cases c4
     obtain⟨ob,cap,rows,es2,g1,g2,rfl⟩:=h1;exact⟨_,_,_,_,_,_,_,h,h4,hex.perm ((List.Perm.append_left ex h3).trans ZNd),Le.era hr kk,⟨ob,cap,rows,es2,g1,g2,rfl⟩,he,Zhi (ZQb hr.nd).2,rfl⟩
    ·exact h.elim
   | box _ _=>exact h.elim
   | mid _ _ _ _ _ _=>exact h.elim
   | own _ _ _ _=>exact h.elim
  | _=>simp only[ZHc]at h;exact h.elim
 | _=>simp only[ZHc]at h;exact h.elim
end
theorem Zxh:∀ (g:Nat) {x z:V} {off n:Nat} {ag:Bool} {U:Nat→Prop},Zoa g x off n ag=some z→x.ok U→z.ok U
 | 0,_,_,_,_,_,_,h,_=>by cases h
 | g+1,x,z,off,n,ag,U,h,hk=>by
  have whole:∀ {y:V},(match Nat.beq off 0,Nat.beq y.size n,eqB y.isAgg ag with
    | true,true,true=>some y
    | _,_,_=>match y with
     | .agg c=>Zoa g c off n ag
     | .data t x=>match ZYb t x with
      | some c=>Zoa g c off n ag
      | none=>none
     | _=>none)=some z→y.ok U→z.ok U:=by
   intro y hy hk;split at hy
   ·cases hy;exact hk
   ·split at hy
    ·exact Zxh g hy hk
    ·split at hy
     ·rename_i he;exact Zxh g hy (Zqr he)
     ·cases hy
    ·cases hy
  cases x with
  | nl=>simp only[Zoa]at h;cases h
  | cons a b =>
   simp only[Zoa]at h;split at h
   ·exact Zxh g h hk.1
   ·split at h
    ·exact Zxh g h hk.2
    ·cases h
  | data t x=>exact whole (y:=.data t x) h hk
  | agg c=>exact whole (y:=.agg c) h hk
  | nilS=>exact whole (y:=.nilS) h hk
  | own u=>exact whole (y:=.own u) h hk
  | row u i hv cv t r=>exact whole (y:=.row u i hv cv t r) h hk
  | ptr u o=>exact whole (y:=.ptr u o) h hk
  | el u i cv t x o=>exact whole (y:=.el u i cv t x o) h hk
  | rp u i hv cv t r=>exact whole (y:=.rp u i hv cv t r) h hk
  | rel u i j hv cv t r x o=>exact whole (y:=.rel u i j hv cv t r x o) h hk
  | vp t x o=>exact whole (y:=.vp t x o) h hk
  | tup c=>exact whole (y:=.tup c) h hk
  | fn f c=>exact whole (y:=.fn f c) h hk
  | ifc f c=>exact whole (y:=.ifc f c) h hk
  | undef=>exact whole (y:=.undef) h hk
structure H0 (G:V→Value→Prop) (n0:Nat) (f0:Fr) (l0:Lo):Prop where
 f:∀ t e,lkE f0 t=some e→e.x.ok (· < n0)∧e.st<n0
 l:∀ e ∈ l0,e.k<n0∧e.st<n0∧e.x.ok (· < n0) (· < n0)
 nd:(l0.map En.k).Nodup
 g:∀ x y,G x y→x.ok (· < n0)
theorem Rel.h0 {N:Nat} {G:V→Value→Prop} {w0:Base} {v0:Zb} {n:Nat} {f:Fr} {l:Lo} {a:Act} {w:World} (h:Rel N G w0 v0 (· < n) f l a w):H0 G n f l:=by
 obtain⟨γ,v,ℓ,h⟩:=h;exact⟨h.uf,h.ul,h.nd,λx y hg=>(h.gh x y hg).2⟩
theorem hvOf_le {G:V→Value→Prop} {n0:Nat} {f0:Fr} {l0:Lo} (h0:H0 G n0 f0 l0) (u:Nat):ZNa l0 u≤n0:=by
 unfold ZNa;split
 ·rename_i he;exact Nat.le_of_lt (h0.l _ (Zt he).1).2.2
 ·exact Nat.zero_le _
theorem Zpr {x:V} {u n:Nat} (h:idV x=some u) (hk:x.ok (· < n)):u<n:=by
 unfold idV at h;split at h
 ·cases h;exact hk
 ·cases h;exact hk
 ·cases h
theorem ZEm {G:V→Value→Prop} {n0:Nat} {f0:Fr} {l0:Lo} (h0:H0 G n0 f0 l0):∀ {p:Pl} {u:Nat},Zyc f0 l0 p=some u→u<n0
 | .sl s,u,h=>by
  simp only[Zyc]at h
  split at h
  ·rename_i e he;exact Zpr h (h0.f _ _ he).1
  ·cases h
 | .fld p off,u,h=>by
  simp only[Zyc]at h
  split at h
  ·split at h
   ·rename_i he
    split at h
    ·rename_i hg
     have:=(h0.l _ (Zt he).1).2.2
     exact Zpr h (Zxh FU hg this)
    ·cases h
   ·cases h
  ·cases h
def SRel (a:Act) (v:Zb) (t:Nat) (c:CT) (z:c.den) (es:List Loc):Prop:=∃ cs,a.tmps.getD t undef=c.vl cs∧CR v c false z cs es
def LRel (v:Zb) (γ:Nat→Gh) (l:Lo) (n0:Nat) (f0:Fr) (l0:Lo) (u:Nat) (p:Pl) (c:CT) (z:c.den) (es:List Loc):Prop :=
 Zyc f0 l0 p=some u∧∃ g e0,lkE l u=some e0∧CRL v c z g es∧∀ (γ':Nat→Gh) (st':Nat) (L':LV),γ' u=g→n0≤st'→ZGg (n0≤·) (ZNa l0 u) c z L'→CE (· < n0) γ γ' u e0.st st' e0.x L'
def VRel (a:Act) (v:Zb) (γ:Nat→Gh) (l:Lo) (n0:Nat) (f0:Fr) (l0:Lo):(vs:List Vr)→(ctL (vs.map Vr.ct)).den→List Loc→List Nat→Prop
 | [],_,es,us=>es=[]∧us=[]
 | [.s t c],z,es,us=>us=[]∧SRel a v t c z es
 | [.l p c],z,es,us=>∃ u,us=[u]∧LRel v γ l n0 f0 l0 u p c z es
 | .s t c :: w :: r,z,es,us=>∃ e1 e2,es=e1++e2∧SRel a v t c z.1 e1∧VRel a v γ l n0 f0 l0 (w :: r) z.2 e2 us
 | .l p c :: w :: r,z,es,us=>∃ e1 e2 u us',es=e1++e2∧us=u :: us'∧LRel v γ l n0 f0 l0 u p c z.1 e1∧VRel a v γ l n0 f0 l0 (w :: r) z.2 e2 us'
theorem ZSx {a:Act} {v v':Zb} (h:v.le v') {t:Nat} {c:CT} {z:c.den} {es:List Loc} (k:SRel a v t c z es):SRel a v' t c z es:=by
 obtain⟨cs,h1,h2⟩:=k;exact⟨cs,h1,Zjn h h2⟩
theorem ZKv {v v':Zb} (h:v.le v') {γ:Nat→Gh} {l:Lo} {n0:Nat} {f0:Fr} {l0:Lo} {u:Nat} {p:Pl} {c:CT} {z:c.den} {es:List Loc} (k:LRel v γ l n0 f0 l0 u p c z es):LRel v' γ l n0 f0 l0 u p c z es:=by
 obtain⟨h1,g,e0,h2,h3,h4⟩:=k;exact⟨h1,g,e0,h2,ZJx h h3,h4⟩
section
variable {N:Nat} {G:V→Value→Prop} {w0:Base} {v0:Zb} {f:Fr} {a:Act} {w:World} {n:Nat}
theorem ZYo {ρ:Type} {t:Nat} {c:CT} {K:c.den→Ev ρ} {l:Lo} {Post:ρ→Fr→Lo→Prop} {γ:Nat→Gh} {v:Zb} {ℓ ex:List Loc}
  (h:Zl n (.rdS t λv=>Zea FU c v K) f l Post) (hr:RelX N G w0 v0 (· < n) (· < n+1) f l a w γ v ℓ) (hex:St N w0 v0 [] (ex++ℓ) v a w) :
  ∃ z l' γ' v' ℓ' es,Zl n (K z) f l' Post∧RelX N G w0 v0 (· < n) (· < n+1) f l' a w γ' v' ℓ'∧St N w0 v0 [] (es++(ex++ℓ')) v' a w∧Le (· < n) v γ l v' γ' l'∧SRel a v' t c z es:=by
 obtain⟨e,he,h⟩:=h;have hrv:=hr.fr t e he;obtain⟨cs,hcs,hy⟩:=ZKb hrv (λq hq=>by rw[hq]at h;exact ZEx h);obtain⟨z,l',γ',v',ℓ',es,k1,k2,k3,k4,k5,k6⟩:=ZBe (U:=(· < n)) (X:=(· < n+1)) (Nat.lt_irrefl n) (Nat.lt_succ_self n) FU h hr hex (hr.uf t e he).1 hcs;exact⟨z,l',γ',v',ℓ',es,k1,k2,k3,k4,cs,by rw[hy,Z3f k6],k5⟩
theorem Z5n {ρ:Type} {u:Nat} {p:Pl} {c:CT} {K:c.den→Ev ρ} {l lE f0l:Lo} {f0:Fr} {n0:Nat} {Post:ρ→Fr→Lo→Prop} {γ γE:Nat→Gh} {v vE:Zb} {ℓ ex:List Loc} (h0:H0 G n0 f0 f0l) (hn0:n0≤n) (hid:Zyc f0 f0l p=some u)
  (h:Zl n (ZHc (ZNa f0l u) c u K) f l Post) (hr:RelX N G w0 v0 (· < n) (· < n+1) f l a w γ v ℓ) (hex:St N w0 v0 [] (ex++ℓ) v a w) (hE:Le (· < n) vE γE lE v γ l) :
  ∃ z l' γ' v' ℓ' es,Zl n (K z) f l' Post∧RelX N G w0 v0 (· < n) (· < n+1) f l' a w γ' v' ℓ'∧St N w0 v0 [] (es++(ex++ℓ')) v' a w∧Le (· < n) v γ l v' γ' l'∧LRel v' γE lE n0 f0 f0l u p c z es∧(∃ e,lkE l u=some e)∧lkE l' u=none:=by
 have hu:u<n:=Nat.lt_of_lt_of_le (ZEm h0 hid) hn0;obtain⟨z,l',γ',v',ℓ',es,e0,k1,k2,k3,k4,k5,k6,k7,k8⟩:=ZQl (U:=(· < n)) (X:=(· < n+1)) (Nat.lt_irrefl n) (Nat.lt_succ_self n) hu h hr hex;obtain⟨eE,q1,q2⟩:=hE.l u e0 hu k6;refine⟨z,l',γ',v',ℓ',es,k1,k2,k3,k4,⟨hid,γ u,eE,q1,k5,λγ2 st' L' hg hs hh=>?_⟩,⟨e0,k6⟩,k7⟩;exact Ziv (Zxm (λk hk=>Nat.lt_of_lt_of_le hk hn0) rfl q2) (CE_head (n0:=n0) (λk hk h=>by omega) hs k8 hh hg k5)
theorem ZIk {ρ:Type} {f0:Fr} {l0 lE:Lo} {n0:Nat} {γE:Nat→Gh} {vE:Zb} (h0:H0 G n0 f0 l0) (hn0:n0≤n):∀ {vs:List Vr} {K:(ctL (vs.map Vr.ct)).den→Ev ρ} {l:Lo} {Post:ρ→Fr→Lo→Prop} {γ:Nat→Gh} {v:Zb} {ℓ ex:List Loc},
  Zl n (ZHe f0 l0 vs K) f l Post→RelX N G w0 v0 (· < n) (· < n+1) f l a w γ v ℓ→St N w0 v0 [] (ex++ℓ) v a w→Le (· < n) vE γE lE v γ l →
  ∃ z l' γ' v' ℓ' es us,Zl n (K z) f l' Post∧RelX N G w0 v0 (· < n) (· < n+1) f l' a w γ' v' ℓ'∧St N w0 v0 [] (es++(ex++ℓ')) v' a w∧Le (· < n) v γ l v' γ' l'∧VRel a v' γE lE n0 f0 l0 vs z es us∧us.Nodup∧∀ u ∈ us,u<n0∧(∃ e,lkE l u=some e)∧u ∈ Z9c f0 l0 vs
 | [],K,l,Post,γ,v,ℓ,ex,h,hr,hex,hE=>by
  obtain⟨E,hE',_⟩:=hr.lr
  exact⟨(),l,γ,v,ℓ,[],[],h,hr,hex,Le.refl hE' (Zb.le_refl _),⟨rfl,rfl⟩,List.nodup_nil,λu hu=>by cases hu⟩
 | [.s t c],K,l,Post,γ,v,ℓ,ex,h,hr,hex,hE=>by
  obtain⟨z,l',γ',v',ℓ',es,k1,k2,k3,k4,k5⟩:=ZYo h hr hex
  exact⟨z,l',γ',v',ℓ',es,[],k1,k2,k3,k4,⟨rfl,k5⟩,List.nodup_nil,λu hu=>by cases hu⟩
 | [.l p c],K,l,Post,γ,v,ℓ,ex,h,hr,hex,hE=>by
  simp only[ZHe]at h
  split at h
  ·rename_i u hid
   obtain⟨z,l',γ',v',ℓ',es,k1,k2,k3,k4,k5,k6,k7⟩:=Z5n h0 hn0 hid h hr hex hE
   refine⟨z,l',γ',v',ℓ',es,[u],k1,k2,k3,k4,⟨u,rfl,k5⟩,List.nodup_cons.2 ⟨by simp,List.nodup_nil⟩,λu' hu=>?_⟩
   rcases List.mem_singleton.1 hu with rfl
   exact⟨ZEm h0 hid,k6,by simp only[Z9c,hid];simp⟩
  ·exact h.elim
 | .s t c :: w :: r,K,l,Post,γ,v,ℓ,ex,h,hr,hex,hE=>by
  obtain⟨z1,l1,γ1,v1,ℓ1,e1,k1,k2,k3,k4,k5⟩:=ZYo (K:=λx=>ZHe f0 l0 (w :: r) λy=>K (x,y)) h hr hex
  obtain⟨z2,l2,γ2,v2,ℓ2,e2,us,q1,q2,q3,q4,q5,q6,q7⟩:=ZIk h0 hn0 (ex:=e1++ex) k1 k2 (by rw[aAq];exact k3) (hE.trans k4)
  refine⟨(z1,z2),l2,γ2,v2,ℓ2,e1++e2,us,q1,q2,q3.perm ?_,k4.trans q4,⟨e1,e2,rfl,ZSx q4.v k5,q5⟩,q6,λu hu=>?_⟩
  ·rw[aAq,aAq];exact ZNd
  ·obtain⟨g1,⟨e,g2⟩,g3⟩:=q7 u hu
   obtain⟨e',g4,_⟩:=k4.l u e (show u<_ by omega) g2
   refine⟨g1,⟨e',g4⟩,?_⟩
   simp only[Z9c]
   split
   ·exact List.mem_cons_of_mem _ g3
   ·exact g3
 | .l p c :: w :: r,K,l,Post,γ,v,ℓ,ex,h,hr,hex,hE=>by
  simp only[ZHe]at h
  split at h
  ·rename_i u hid
   obtain⟨z1,l1,γ1,v1,ℓ1,e1,k1,k2,k3,k4,k5,k6,k7⟩:=Z5n (K:=λx=>ZHe f0 l0 (w :: r) λy=>K (x,y)) h0 hn0 hid h hr hex hE
   obtain⟨z2,l2,γ2,v2,ℓ2,e2,us,q1,q2,q3,q4,q5,q6,q7⟩:=ZIk h0 hn0 (ex:=e1++ex) k1 k2 (by rw[aAq];exact k3) (hE.trans k4)
   refine⟨(z1,z2),l2,γ2,v2,ℓ2,e1++e2,u :: us,q1,q2,q3.perm ?_,k4.trans q4,⟨e1,e2,u,us,rfl,rfl,ZKv q4.v k5,q5⟩,List.nodup_cons.2 ⟨λhu=>?_,q6⟩,λu' hu=>?_⟩
   ·rw[aAq,aAq];exact ZNd
   ·obtain⟨_,⟨e,g2⟩,_⟩:=q7 u hu
    rw[k7]at g2;cases g2
   ·have hg:Z9c f0 l0 (.l p c :: w :: r)=u :: Z9c f0 l0 (w :: r):=by simp only[Z9c,hid]
    rw[hg]
    rcases List.mem_cons.1 hu with rfl | hu
    ·exact⟨ZEm h0 hid,k6,List.mem_cons_self⟩
    ·obtain⟨g1,⟨e,g2⟩,g3⟩:=q7 u' hu
     obtain⟨e',g4,_⟩:=k4.l u' e (show u'<_ by omega) g2
     exact⟨g1,⟨e',g4⟩,List.mem_cons_of_mem _ g3⟩
  ·exact h.elim
end
end Go.Eng
