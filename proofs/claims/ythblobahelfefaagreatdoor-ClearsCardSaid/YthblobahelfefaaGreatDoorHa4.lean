/- Merged. -/
import Derived.Test.YthblobahelfefaaGreatDoorGHa1
set_option linter.unusedSimpArgs false
set_option linter.unusedVariables false
namespace Go.Proofs.YthblobahelfefaaGreatDoor
open Go Go.RowKit Go.Ct
abbrev Jb(t:nV):List MapEntry:=[⟨.int .i64 0,.agg ⟨[.int .i64 t.root,.bool t.ro]⟩,0⟩]
section
variable{D:List Nat}{A B:Fr}{b bT m bo bt bi:Nat}{w:World}{t:nV}{o:kA}
theorem Rw(ho:o.kind=1∨o.kind=2∨o.kind=3∨o.kind=4∨o.kind=10∨o.kind=7)(h0:o.handle=0)(hk:o.key.size<=64)(hr:t.ro=false)(k:Int)(hs:SF w D [(bT,qX b m bo bt bi),(bt,bV (Jb t) 1)] [] [] [] w) :
  Calls Tryz.prog 50 #[pt bT,.int .i64 k,.agg ⟨o.cells⟩] w λ e w'=>e=.returned (.int .i64 0)/\SF w D [(bT,qX b m bo bt bi),(bt,bV (Jb t) 1)] [] [] [] w':=by
 refine enter Tryz.func50 Tryz.ntmps50 rfl rfl hs ?_;simp only[bY];simp only[kA.cells,h0,hr];all_goals (refine J0 ?_;refine bC (λ x5=>?_);refine nN ?_;refine gP ?_;refine Q9 ?_)
 all_goals ((refine kT 12 (λ g12=>?_) (λ g12=>?_)<;>(try (first|contradiction|(exfalso;omega)))<;>((refine aG ?_;refine aF ?_))))
 all_goals (((refine aG ?_;refine bW ?_));refine vd ?_;refine aC ?_)
 all_goals
 refine aX (λ c16=>?_) (λ c16=>?_)
 ·all_goals try (first|contradiction|(exfalso;omega))
  all_goals refine cC ?_
  all_goals refine K0d ?_;intro w hw;first|exact⟨rfl,hw.ret (by repeat (first|exact List.Sublist.refl _|apply List.Sublist.cons)) (aT.bA λ f hf=>hf) (List.Sublist.refl _)⟩|(exfalso;omega)|(exfalso;simp_all)
 ·all_goals try (first|contradiction|(exfalso;omega))
  all_goals (refine mD ?_;refine gP ?_;refine Fe ?_)
  all_goals
   refine aX (λ c19=>?_) (λ c19=>?_)
   ·all_goals try (first|contradiction|(exfalso;omega))
    all_goals (refine Ir ?_;refine J3 ?_;(refine aK (NO) (λ x24=>?_);try (refine eF (λ h24=>?_)));refine Fe ?_)
    all_goals
    refine aX (λ c25=>?_) (λ c25=>?_)
    ·try exact nv c25
     all_goals try (first|contradiction|(exfalso;omega))
     all_goals refine cC ?_
     all_goals refine K0d ?_;intro w hw;first|exact⟨rfl,hw.ret (by repeat (first|exact List.Sublist.refl _|apply List.Sublist.cons)) (aT.bA λ f hf=>hf) (List.Sublist.refl _)⟩|(exfalso;omega)|(exfalso;simp_all)
    ·try exact nv c25
     all_goals try (first|contradiction|(exfalso;omega))
     all_goals (refine bD ?_;refine cC ?_)
     all_goals refine K0d ?_;intro w hw;first|exact⟨rfl,hw.ret (by repeat (first|exact List.Sublist.refl _|apply List.Sublist.cons)) (aT.bA λ f hf=>hf) (List.Sublist.refl _)⟩|(exfalso;omega)|(exfalso;simp_all)
   ·all_goals try (first|contradiction|(exfalso;omega))
    all_goals (refine mD ?_;refine eQ [(0,[]),(1,[]),(2,[]),(3,[]),(4,[]),(5,[]),(6,[]),(7,[]),(8,[]),(9,[]),(10,[3,5,6]),(11,[]),(12,[])] ?_;refine nZ ?_;refine iX ?_;refine bI (i:=6) (hq:=(nT (iO (K:=3) (E:=72) (dK:=.int .i64) (ze:=.agg ⟨[.int .i64 0,.bool false]⟩) (k:=.int .i64 0) (es:=Jb t) (c:=1) (r:=some (0,.agg ⟨[.int .i64 t.root,.bool t.ro]⟩)) rf rf bU (by kernel_rfl) (by kernel_rfl) rfl (by kernel_rfl) rfl))) (h:=?_);refine aR ?_;refine cP ?_;refine cP ?_;refine sN (hfire:=(λ _=>by first|((repeat (first|exact aS.nil|refine aS.cons (by first|exact fR|exact fO (hq:=nT (iO (K:=3) (E:=72) (dK:=.int .i64) (ze:=.agg ⟨[.int .i64 0,.bool false]⟩) (k:=.int .i64 0) (es:=Jb t) (c:=1) (r:=some (0,.agg ⟨[.int .i64 t.root,.bool t.ro]⟩)) rf rf bU (by kernel_rfl) (by kernel_rfl) rfl (by kernel_rfl) rfl))|exact a_un) ?_));done)|(refine gT ?_;(repeat (first|exact aS.nil|refine aS.cons (by first|exact fR|exact fO (hq:=nT (iO (K:=3) (E:=72) (dK:=.int .i64) (ze:=.agg ⟨[.int .i64 0,.bool false]⟩) (k:=.int .i64 0) (es:=Jb t) (c:=1) (r:=some (0,.agg ⟨[.int .i64 t.root,.bool t.ro]⟩)) rf rf bU (by kernel_rfl) (by kernel_rfl) rfl (by kernel_rfl) rfl))|exact a_un) ?_));done))) (h:=λ x7=>?_);refine J40 ?_;refine jF ?_;refine pG ?_)
    all_goals
    refine aX (λ c37=>?_) (λ c37=>?_)
    ·all_goals try (first|contradiction|(exfalso;omega))
     all_goals refine cC ?_
     all_goals refine K0d ?_;intro w hw;first|exact⟨rfl,hw.ret (by repeat (first|exact List.Sublist.refl _|apply List.Sublist.cons)) (aT.bA λ f hf=>hf) (List.Sublist.refl _)⟩|(exfalso;omega)|(exfalso;simp_all)
    ·all_goals try (first|contradiction|(exfalso;omega))
     all_goals (refine mD ?_;refine gP ?_;refine xW ?_;refine aD ?_)
     all_goals ((refine kT 41 (λ g41=>?_) (λ g41=>?_)<;>(try (first|contradiction|(exfalso;omega)))<;>refine Ka1 ?_))
     all_goals (refine Kb9 ?_;(first|refine bG ?_|(refine aG ?_;refine aK (cV (hc:=λ w1 hw=>wB o.key w1)) (λ x44=>?_)));refine y7 ?_;refine aC ?_)
     all_goals
      refine aX (λ c46=>?_) (λ c46=>?_)
      ·try exact nv c46
       all_goals try (first|contradiction|(exfalso;omega))
       all_goals refine cC ?_
       all_goals
       refine K0d ?_;intro w hw;first|exact⟨rfl,hw.ret (by repeat (first|exact List.Sublist.refl _|apply List.Sublist.cons)) (aT.bA λ f hf=>hf) (List.Sublist.refl _)⟩|(exfalso;omega)|(exfalso;simp_all)
      ·all_goals try (first|contradiction|(exfalso;omega))
       all_goals (refine mD ?_;refine gP ?_;refine Kb2 ?_;refine Kb1 ?_)
       all_goals
       refine aX (λ c49=>?_) (λ c49=>?_)
       ·all_goals try (first|contradiction|(exfalso;omega))
        all_goals refine bD ?_
        all_goals
         refine aX (λ c49=>?_) (λ c49=>?_)
         ·all_goals try (first|contradiction|(exfalso;omega))
          all_goals (refine gP ?_;refine aC ?_)
          all_goals
          refine aX (λ c58=>?_) (λ c58=>?_)
          ·all_goals try (first|contradiction|(exfalso;omega))
           all_goals refine cC ?_
           all_goals refine K0d ?_;intro w hw;first|exact⟨rfl,hw.ret (by repeat (first|exact List.Sublist.refl _|apply List.Sublist.cons)) (aT.bA λ f hf=>hf) (List.Sublist.refl _)⟩|(exfalso;omega)|(exfalso;simp_all)
          ·all_goals try (first|contradiction|(exfalso;omega))
           all_goals (refine Ka2 ?_)
           all_goals refine K0d ?_;intro w hw;first|exact⟨rfl,hw.ret (by repeat (first|exact List.Sublist.refl _|apply List.Sublist.cons)) (aT.bA λ f hf=>hf) (List.Sublist.refl _)⟩|(exfalso;omega)|(exfalso;simp_all)
         ·all_goals try (first|contradiction|(exfalso;omega))
          all_goals (refine Kb1 ?_)
          all_goals
          refine aX (λ c59=>?_) (λ c59=>?_)
          ·try exact nv c59
           all_goals try (first|contradiction|(exfalso;omega))
           all_goals refine bD ?_
           all_goals
            refine aX (λ c59=>?_) (λ c59=>?_)
            ·try exact nv c59
             all_goals try (first|contradiction|(exfalso;omega))
             all_goals (refine Kc7 ?_)
             all_goals
             refine aX (λ c64=>?_) (λ c64=>?_)
             ·try exact nv c64
              all_goals try (first|contradiction|(exfalso;omega))
              all_goals refine cC ?_
              all_goals refine K0d ?_;intro w hw;first|exact⟨rfl,hw.ret (by repeat (first|exact List.Sublist.refl _|apply List.Sublist.cons)) (aT.bA λ f hf=>hf) (List.Sublist.refl _)⟩|(exfalso;omega)|(exfalso;simp_all)
             ·try exact nv c64
              all_goals try (first|contradiction|(exfalso;omega))
              all_goals (refine Ka2 ?_)
              all_goals refine K0d ?_;intro w hw;first|exact⟨rfl,hw.ret (by repeat (first|exact List.Sublist.refl _|apply List.Sublist.cons)) (aT.bA λ f hf=>hf) (List.Sublist.refl _)⟩|(exfalso;omega)|(exfalso;simp_all)
            ·try exact nv c59
             all_goals try (first|contradiction|(exfalso;omega))
             all_goals (refine Ka2 ?_)
             all_goals
             refine K0d ?_;intro w hw;first|exact⟨rfl,hw.ret (by repeat (first|exact List.Sublist.refl _|apply List.Sublist.cons)) (aT.bA λ f hf=>hf) (List.Sublist.refl _)⟩|(exfalso;omega)|(exfalso;simp_all)
          ·try exact nv c59
           all_goals try (first|contradiction|(exfalso;omega))
           all_goals (refine Kb3 ?_)
           all_goals
            refine aX (λ c59=>?_) (λ c59=>?_)
            ·try exact nv c59
             all_goals try (first|contradiction|(exfalso;omega))
             all_goals (refine Kc7 ?_)
             all_goals
             refine aX (λ c64=>?_) (λ c64=>?_)
             ·try exact nv c64
              all_goals try (first|contradiction|(exfalso;omega))
              all_goals refine cC ?_
              all_goals refine K0d ?_;intro w hw;first|exact⟨rfl,hw.ret (by repeat (first|exact List.Sublist.refl _|apply List.Sublist.cons)) (aT.bA λ f hf=>hf) (List.Sublist.refl _)⟩|(exfalso;omega)|(exfalso;simp_all)
             ·try exact nv c64
              all_goals try (first|contradiction|(exfalso;omega))
              all_goals (refine Ka2 ?_)
              all_goals refine K0d ?_;intro w hw;first|exact⟨rfl,hw.ret (by repeat (first|exact List.Sublist.refl _|apply List.Sublist.cons)) (aT.bA λ f hf=>hf) (List.Sublist.refl _)⟩|(exfalso;omega)|(exfalso;simp_all)
            ·try exact nv c59
             all_goals try (first|contradiction|(exfalso;omega))
             all_goals (refine Ka2 ?_)
             all_goals
             refine K0d ?_;intro w hw;first|exact⟨rfl,hw.ret (by repeat (first|exact List.Sublist.refl _|apply List.Sublist.cons)) (aT.bA λ f hf=>hf) (List.Sublist.refl _)⟩|(exfalso;omega)|(exfalso;simp_all)
       ·all_goals try (first|contradiction|(exfalso;omega))
        all_goals refine iC ?_
        all_goals
         refine aX (λ c49=>?_) (λ c49=>?_)
         ·all_goals try (first|contradiction|(exfalso;omega))
          all_goals refine bD ?_
          all_goals
          refine aX (λ c49=>?_) (λ c49=>?_)
          ·all_goals try (first|contradiction|(exfalso;omega))
           all_goals (refine gP ?_;refine aC ?_)
           all_goals
            refine aX (λ c58=>?_) (λ c58=>?_)
            ·all_goals try (first|contradiction|(exfalso;omega))
             all_goals refine cC ?_
             all_goals
             refine K0d ?_;intro w hw;first|exact⟨rfl,hw.ret (by repeat (first|exact List.Sublist.refl _|apply List.Sublist.cons)) (aT.bA λ f hf=>hf) (List.Sublist.refl _)⟩|(exfalso;omega)|(exfalso;simp_all)
            ·all_goals try (first|contradiction|(exfalso;omega))
             all_goals (refine Ka2 ?_)
             all_goals
             refine K0d ?_;intro w hw;first|exact⟨rfl,hw.ret (by repeat (first|exact List.Sublist.refl _|apply List.Sublist.cons)) (aT.bA λ f hf=>hf) (List.Sublist.refl _)⟩|(exfalso;omega)|(exfalso;simp_all)
          ·all_goals try (first|contradiction|(exfalso;omega))
           all_goals (refine Kb1 ?_)
           all_goals
            refine aX (λ c59=>?_) (λ c59=>?_)
            ·try exact nv c59
             all_goals try (first|contradiction|(exfalso;omega))
             all_goals refine bD ?_
             all_goals
             refine aX (λ c59=>?_) (λ c59=>?_)
             ·try exact nv c59
              all_goals try (first|contradiction|(exfalso;omega))
              all_goals (refine Kc7 ?_)
              all_goals
               refine aX (λ c64=>?_) (λ c64=>?_)
               ·try exact nv c64
                all_goals try (first|contradiction|(exfalso;omega))
                all_goals refine cC ?_
                all_goals
                refine K0d ?_;intro w hw;first|exact⟨rfl,hw.ret (by repeat (first|exact List.Sublist.refl _|apply List.Sublist.cons)) (aT.bA λ f hf=>hf) (List.Sublist.refl _)⟩|(exfalso;omega)|(exfalso;simp_all)
               ·try exact nv c64
                all_goals try (first|contradiction|(exfalso;omega))
                all_goals (refine Ka2 ?_)
                all_goals
                refine K0d ?_;intro w hw;first|exact⟨rfl,hw.ret (by repeat (first|exact List.Sublist.refl _|apply List.Sublist.cons)) (aT.bA λ f hf=>hf) (List.Sublist.refl _)⟩|(exfalso;omega)|(exfalso;simp_all)
             ·try exact nv c59
              all_goals try (first|contradiction|(exfalso;omega))
              all_goals (refine Ka2 ?_)
              all_goals refine K0d ?_;intro w hw;first|exact⟨rfl,hw.ret (by repeat (first|exact List.Sublist.refl _|apply List.Sublist.cons)) (aT.bA λ f hf=>hf) (List.Sublist.refl _)⟩|(exfalso;omega)|(exfalso;simp_all)
            ·try exact nv c59
             all_goals try (first|contradiction|(exfalso;omega))
             all_goals (refine Kb3 ?_)
             all_goals
             refine aX (λ c59=>?_) (λ c59=>?_)
             ·try exact nv c59
              all_goals try (first|contradiction|(exfalso;omega))
              all_goals (refine Kc7 ?_)
              all_goals
               refine aX (λ c64=>?_) (λ c64=>?_)
               ·try exact nv c64
                all_goals try (first|contradiction|(exfalso;omega))
                all_goals refine cC ?_
                all_goals
                refine K0d ?_;intro w hw;first|exact⟨rfl,hw.ret (by repeat (first|exact List.Sublist.refl _|apply List.Sublist.cons)) (aT.bA λ f hf=>hf) (List.Sublist.refl _)⟩|(exfalso;omega)|(exfalso;simp_all)
               ·try exact nv c64
                all_goals try (first|contradiction|(exfalso;omega))
                all_goals (refine Ka2 ?_)
                all_goals
                refine K0d ?_;intro w hw;first|exact⟨rfl,hw.ret (by repeat (first|exact List.Sublist.refl _|apply List.Sublist.cons)) (aT.bA λ f hf=>hf) (List.Sublist.refl _)⟩|(exfalso;omega)|(exfalso;simp_all)
             ·try exact nv c59
              all_goals try (first|contradiction|(exfalso;omega))
              all_goals (refine Ka2 ?_)
              all_goals refine K0d ?_;intro w hw;first|exact⟨rfl,hw.ret (by repeat (first|exact List.Sublist.refl _|apply List.Sublist.cons)) (aT.bA λ f hf=>hf) (List.Sublist.refl _)⟩|(exfalso;omega)|(exfalso;simp_all)
         ·all_goals try (first|contradiction|(exfalso;omega))
          all_goals refine iC ?_
          all_goals
          refine aX (λ c49=>?_) (λ c49=>?_)
          ·all_goals try (first|contradiction|(exfalso;omega))
           all_goals refine bD ?_
           all_goals
            refine aX (λ c49=>?_) (λ c49=>?_)
            ·all_goals try (first|contradiction|(exfalso;omega))
             all_goals (refine gP ?_;refine aC ?_)
             all_goals
             refine aX (λ c58=>?_) (λ c58=>?_)
             ·all_goals try (first|contradiction|(exfalso;omega))
              all_goals refine cC ?_
              all_goals refine K0d ?_;intro w hw;first|exact⟨rfl,hw.ret (by repeat (first|exact List.Sublist.refl _|apply List.Sublist.cons)) (aT.bA λ f hf=>hf) (List.Sublist.refl _)⟩|(exfalso;omega)|(exfalso;simp_all)
             ·all_goals try (first|contradiction|(exfalso;omega))
              all_goals (refine Ka2 ?_)
              all_goals refine K0d ?_;intro w hw;first|exact⟨rfl,hw.ret (by repeat (first|exact List.Sublist.refl _|apply List.Sublist.cons)) (aT.bA λ f hf=>hf) (List.Sublist.refl _)⟩|(exfalso;omega)|(exfalso;simp_all)
            ·all_goals try (first|contradiction|(exfalso;omega))
             all_goals (refine Kb1 ?_)
             all_goals
             refine aX (λ c59=>?_) (λ c59=>?_)
             ·try exact nv c59
              all_goals try (first|contradiction|(exfalso;omega))
              all_goals refine bD ?_
              all_goals
               refine aX (λ c59=>?_) (λ c59=>?_)
               ·try exact nv c59
                all_goals try (first|contradiction|(exfalso;omega))
                all_goals (refine Kc7 ?_)
                all_goals
                refine aX (λ c64=>?_) (λ c64=>?_)
                ·try exact nv c64
                 all_goals try (first|contradiction|(exfalso;omega))
                 all_goals refine cC ?_
                 all_goals refine K0d ?_;intro w hw;first|exact⟨rfl,hw.ret (by repeat (first|exact List.Sublist.refl _|apply List.Sublist.cons)) (aT.bA λ f hf=>hf) (List.Sublist.refl _)⟩|(exfalso;omega)|(exfalso;simp_all)
                ·try exact nv c64
                 all_goals try (first|contradiction|(exfalso;omega))
                 all_goals (refine Ka2 ?_)
                 all_goals refine K0d ?_;intro w hw;first|exact⟨rfl,hw.ret (by repeat (first|exact List.Sublist.refl _|apply List.Sublist.cons)) (aT.bA λ f hf=>hf) (List.Sublist.refl _)⟩|(exfalso;omega)|(exfalso;simp_all)
               ·try exact nv c59
                all_goals try (first|contradiction|(exfalso;omega))
                all_goals (refine Ka2 ?_)
                all_goals
                refine K0d ?_;intro w hw;first|exact⟨rfl,hw.ret (by repeat (first|exact List.Sublist.refl _|apply List.Sublist.cons)) (aT.bA λ f hf=>hf) (List.Sublist.refl _)⟩|(exfalso;omega)|(exfalso;simp_all)
             ·try exact nv c59
              all_goals try (first|contradiction|(exfalso;omega))
              all_goals (refine Kb3 ?_)
              all_goals
               refine aX (λ c59=>?_) (λ c59=>?_)
               ·try exact nv c59
                all_goals try (first|contradiction|(exfalso;omega))
                all_goals (refine Kc7 ?_)
                all_goals
                refine aX (λ c64=>?_) (λ c64=>?_)
                ·try exact nv c64
                 all_goals try (first|contradiction|(exfalso;omega))
                 all_goals refine cC ?_
                 all_goals refine K0d ?_;intro w hw;first|exact⟨rfl,hw.ret (by repeat (first|exact List.Sublist.refl _|apply List.Sublist.cons)) (aT.bA λ f hf=>hf) (List.Sublist.refl _)⟩|(exfalso;omega)|(exfalso;simp_all)
                ·try exact nv c64
                 all_goals try (first|contradiction|(exfalso;omega))
                 all_goals (refine Ka2 ?_)
                 all_goals refine K0d ?_;intro w hw;first|exact⟨rfl,hw.ret (by repeat (first|exact List.Sublist.refl _|apply List.Sublist.cons)) (aT.bA λ f hf=>hf) (List.Sublist.refl _)⟩|(exfalso;omega)|(exfalso;simp_all)
               ·try exact nv c59
                all_goals try (first|contradiction|(exfalso;omega))
                all_goals (refine Ka2 ?_)
                all_goals
                refine K0d ?_;intro w hw;first|exact⟨rfl,hw.ret (by repeat (first|exact List.Sublist.refl _|apply List.Sublist.cons)) (aT.bA λ f hf=>hf) (List.Sublist.refl _)⟩|(exfalso;omega)|(exfalso;simp_all)
          ·all_goals try (first|contradiction|(exfalso;omega))
           all_goals refine iC ?_
           all_goals
            refine aX (λ c49=>?_) (λ c49=>?_)
            ·all_goals try (first|contradiction|(exfalso;omega))
             all_goals refine bD ?_
             all_goals
             refine aX (λ c49=>?_) (λ c49=>?_)
             ·all_goals try (first|contradiction|(exfalso;omega))
              all_goals (refine gP ?_;refine aC ?_)
              all_goals
               refine aX (λ c58=>?_) (λ c58=>?_)
               ·all_goals try (first|contradiction|(exfalso;omega))
                all_goals refine cC ?_
                all_goals
                refine K0d ?_;intro w hw;first|exact⟨rfl,hw.ret (by repeat (first|exact List.Sublist.refl _|apply List.Sublist.cons)) (aT.bA λ f hf=>hf) (List.Sublist.refl _)⟩|(exfalso;omega)|(exfalso;simp_all)
               ·all_goals try (first|contradiction|(exfalso;omega))
                all_goals (refine Ka2 ?_)
                all_goals
                refine K0d ?_;intro w hw;first|exact⟨rfl,hw.ret (by repeat (first|exact List.Sublist.refl _|apply List.Sublist.cons)) (aT.bA λ f hf=>hf) (List.Sublist.refl _)⟩|(exfalso;omega)|(exfalso;simp_all)
             ·all_goals try (first|contradiction|(exfalso;omega))
              all_goals (refine Kb1 ?_)
              all_goals
               refine aX (λ c59=>?_) (λ c59=>?_)
               ·try exact nv c59
                all_goals try (first|contradiction|(exfalso;omega))
                all_goals refine bD ?_
                all_goals
                refine aX (λ c59=>?_) (λ c59=>?_)
                ·try exact nv c59
                 all_goals try (first|contradiction|(exfalso;omega))
                 all_goals (refine Kc7 ?_)
                 all_goals
                  refine aX (λ c64=>?_) (λ c64=>?_)
                  ·try exact nv c64
                   all_goals try (first|contradiction|(exfalso;omega))
                   all_goals refine cC ?_
                   all_goals
                   refine K0d ?_;intro w hw;first|exact⟨rfl,hw.ret (by repeat (first|exact List.Sublist.refl _|apply List.Sublist.cons)) (aT.bA λ f hf=>hf) (List.Sublist.refl _)⟩|(exfalso;omega)|(exfalso;simp_all)
                  ·try exact nv c64
                   all_goals try (first|contradiction|(exfalso;omega))
                   all_goals (refine Ka2 ?_)
                   all_goals
                   refine K0d ?_;intro w hw;first|exact⟨rfl,hw.ret (by repeat (first|exact List.Sublist.refl _|apply List.Sublist.cons)) (aT.bA λ f hf=>hf) (List.Sublist.refl _)⟩|(exfalso;omega)|(exfalso;simp_all)
                ·try exact nv c59
                 all_goals try (first|contradiction|(exfalso;omega))
                 all_goals (refine Ka2 ?_)
                 all_goals refine K0d ?_;intro w hw;first|exact⟨rfl,hw.ret (by repeat (first|exact List.Sublist.refl _|apply List.Sublist.cons)) (aT.bA λ f hf=>hf) (List.Sublist.refl _)⟩|(exfalso;omega)|(exfalso;simp_all)
               ·try exact nv c59
                all_goals try (first|contradiction|(exfalso;omega))
                all_goals (refine Kb3 ?_)
                all_goals
                refine aX (λ c59=>?_) (λ c59=>?_)
                ·try exact nv c59
                 all_goals try (first|contradiction|(exfalso;omega))
                 all_goals (refine Kc7 ?_)
                 all_goals
                  refine aX (λ c64=>?_) (λ c64=>?_)
                  ·try exact nv c64
                   all_goals try (first|contradiction|(exfalso;omega))
                   all_goals refine cC ?_
                   all_goals
                   refine K0d ?_;intro w hw;first|exact⟨rfl,hw.ret (by repeat (first|exact List.Sublist.refl _|apply List.Sublist.cons)) (aT.bA λ f hf=>hf) (List.Sublist.refl _)⟩|(exfalso;omega)|(exfalso;simp_all)
                  ·try exact nv c64
                   all_goals try (first|contradiction|(exfalso;omega))
                   all_goals (refine Ka2 ?_)
                   all_goals
                   refine K0d ?_;intro w hw;first|exact⟨rfl,hw.ret (by repeat (first|exact List.Sublist.refl _|apply List.Sublist.cons)) (aT.bA λ f hf=>hf) (List.Sublist.refl _)⟩|(exfalso;omega)|(exfalso;simp_all)
                ·try exact nv c59
                 all_goals try (first|contradiction|(exfalso;omega))
                 all_goals (refine Ka2 ?_)
                 all_goals refine K0d ?_;intro w hw;first|exact⟨rfl,hw.ret (by repeat (first|exact List.Sublist.refl _|apply List.Sublist.cons)) (aT.bA λ f hf=>hf) (List.Sublist.refl _)⟩|(exfalso;omega)|(exfalso;simp_all)
            ·all_goals try (first|contradiction|(exfalso;omega))
             all_goals refine iC ?_
             all_goals
             refine aX (λ c49=>?_) (λ c49=>?_)
             ·all_goals try (first|contradiction|(exfalso;omega))
              all_goals refine bD ?_
              all_goals
               refine aX (λ c49=>?_) (λ c49=>?_)
               ·try exact nv c49
                all_goals try (first|contradiction|(exfalso;omega))
                all_goals (refine gP ?_;refine aC ?_)
                all_goals
                refine aX (λ c58=>?_) (λ c58=>?_)
                ·try exact nv c58
                 all_goals try (first|contradiction|(exfalso;omega))
                 all_goals refine cC ?_
                 all_goals refine K0d ?_;intro w hw;first|exact⟨rfl,hw.ret (by repeat (first|exact List.Sublist.refl _|apply List.Sublist.cons)) (aT.bA λ f hf=>hf) (List.Sublist.refl _)⟩|(exfalso;omega)|(exfalso;simp_all)
                ·try exact nv c58
                 all_goals try (first|contradiction|(exfalso;omega))
                 all_goals (refine Ka2 ?_)
                 all_goals refine K0d ?_;intro w hw;first|exact⟨rfl,hw.ret (by repeat (first|exact List.Sublist.refl _|apply List.Sublist.cons)) (aT.bA λ f hf=>hf) (List.Sublist.refl _)⟩|(exfalso;omega)|(exfalso;simp_all)
               ·try exact nv c49
                all_goals try (first|contradiction|(exfalso;omega))
                all_goals (refine Kb1 ?_)
                all_goals
                refine aX (λ c59=>?_) (λ c59=>?_)
                ·try exact nv c59
                 all_goals try (first|contradiction|(exfalso;omega))
                 all_goals refine bD ?_
                 all_goals
                  refine aX (λ c59=>?_) (λ c59=>?_)
                  ·try exact nv c59
                   all_goals try (first|contradiction|(exfalso;omega))
                   all_goals (refine Kc7 ?_)
                   all_goals
                   refine aX (λ c64=>?_) (λ c64=>?_)
                   ·try exact nv c64
                    all_goals try (first|contradiction|(exfalso;omega))
                    all_goals refine cC ?_
                    all_goals refine K0d ?_;intro w hw;first|exact⟨rfl,hw.ret (by repeat (first|exact List.Sublist.refl _|apply List.Sublist.cons)) (aT.bA λ f hf=>hf) (List.Sublist.refl _)⟩|(exfalso;omega)|(exfalso;simp_all)
                   ·try exact nv c64
                    all_goals try (first|contradiction|(exfalso;omega))
                    all_goals (refine Ka2 ?_)
                    all_goals refine K0d ?_;intro w hw;first|exact⟨rfl,hw.ret (by repeat (first|exact List.Sublist.refl _|apply List.Sublist.cons)) (aT.bA λ f hf=>hf) (List.Sublist.refl _)⟩|(exfalso;omega)|(exfalso;simp_all)
                  ·try exact nv c59
                   all_goals try (first|contradiction|(exfalso;omega))
                   all_goals (refine Ka2 ?_)
                   all_goals
                   refine K0d ?_;intro w hw;first|exact⟨rfl,hw.ret (by repeat (first|exact List.Sublist.refl _|apply List.Sublist.cons)) (aT.bA λ f hf=>hf) (List.Sublist.refl _)⟩|(exfalso;omega)|(exfalso;simp_all)
                ·try exact nv c59
                 all_goals try (first|contradiction|(exfalso;omega))
                 all_goals (refine Kb3 ?_)
                 all_goals
                  refine aX (λ c59=>?_) (λ c59=>?_)
                  ·try exact nv c59
                   all_goals try (first|contradiction|(exfalso;omega))
                   all_goals (refine Kc7 ?_)
                   all_goals
                   refine aX (λ c64=>?_) (λ c64=>?_)
                   ·try exact nv c64
                    all_goals try (first|contradiction|(exfalso;omega))
                    all_goals refine cC ?_
                    all_goals refine K0d ?_;intro w hw;first|exact⟨rfl,hw.ret (by repeat (first|exact List.Sublist.refl _|apply List.Sublist.cons)) (aT.bA λ f hf=>hf) (List.Sublist.refl _)⟩|(exfalso;omega)|(exfalso;simp_all)
                   ·try exact nv c64
                    all_goals try (first|contradiction|(exfalso;omega))
                    all_goals (refine Ka2 ?_)
                    all_goals refine K0d ?_;intro w hw;first|exact⟨rfl,hw.ret (by repeat (first|exact List.Sublist.refl _|apply List.Sublist.cons)) (aT.bA λ f hf=>hf) (List.Sublist.refl _)⟩|(exfalso;omega)|(exfalso;simp_all)
                  ·try exact nv c59
                   all_goals try (first|contradiction|(exfalso;omega))
                   all_goals (refine Ka2 ?_)
                   all_goals
                   refine K0d ?_;intro w hw;first|exact⟨rfl,hw.ret (by repeat (first|exact List.Sublist.refl _|apply List.Sublist.cons)) (aT.bA λ f hf=>hf) (List.Sublist.refl _)⟩|(exfalso;omega)|(exfalso;simp_all)
             ·all_goals try (first|contradiction|(exfalso;omega))
              all_goals refine iC ?_
              all_goals
               refine aX (λ c49=>?_) (λ c49=>?_)
               ·all_goals try (first|contradiction|(exfalso;omega))
                all_goals refine bD ?_
                all_goals
                refine aX (λ c49=>?_) (λ c49=>?_)
                ·try exact nv c49
                 all_goals try (first|contradiction|(exfalso;omega))
                 all_goals (refine gP ?_;refine aC ?_)
                 all_goals
                  refine aX (λ c58=>?_) (λ c58=>?_)
                  ·try exact nv c58
                   all_goals try (first|contradiction|(exfalso;omega))
                   all_goals refine cC ?_
                   all_goals
                   refine K0d ?_;intro w hw;first|exact⟨rfl,hw.ret (by repeat (first|exact List.Sublist.refl _|apply List.Sublist.cons)) (aT.bA λ f hf=>hf) (List.Sublist.refl _)⟩|(exfalso;omega)|(exfalso;simp_all)
                  ·try exact nv c58
                   all_goals try (first|contradiction|(exfalso;omega))
                   all_goals (refine Ka2 ?_)
                   all_goals
                   refine K0d ?_;intro w hw;first|exact⟨rfl,hw.ret (by repeat (first|exact List.Sublist.refl _|apply List.Sublist.cons)) (aT.bA λ f hf=>hf) (List.Sublist.refl _)⟩|(exfalso;omega)|(exfalso;simp_all)
                ·try exact nv c49
                 all_goals try (first|contradiction|(exfalso;omega))
                 all_goals (refine Kb1 ?_)
                 all_goals
                  refine aX (λ c59=>?_) (λ c59=>?_)
                  ·try exact nv c59
                   all_goals try (first|contradiction|(exfalso;omega))
                   all_goals refine bD ?_
                   all_goals
                   refine aX (λ c59=>?_) (λ c59=>?_)
                   ·try exact nv c59
                    all_goals try (first|contradiction|(exfalso;omega))
                    all_goals (refine Kc7 ?_)
                    all_goals
                     refine aX (λ c64=>?_) (λ c64=>?_)
                     ·try exact nv c64
                      all_goals try (first|contradiction|(exfalso;omega))
                      all_goals refine cC ?_
                      all_goals
                      refine K0d ?_;intro w hw;first|exact⟨rfl,hw.ret (by repeat (first|exact List.Sublist.refl _|apply List.Sublist.cons)) (aT.bA λ f hf=>hf) (List.Sublist.refl _)⟩|(exfalso;omega)|(exfalso;simp_all)
                     ·try exact nv c64
                      all_goals try (first|contradiction|(exfalso;omega))
                      all_goals (refine Ka2 ?_)
                      all_goals
                      refine K0d ?_;intro w hw;first|exact⟨rfl,hw.ret (by repeat (first|exact List.Sublist.refl _|apply List.Sublist.cons)) (aT.bA λ f hf=>hf) (List.Sublist.refl _)⟩|(exfalso;omega)|(exfalso;simp_all)
                   ·try exact nv c59
                    all_goals try (first|contradiction|(exfalso;omega))
                    all_goals (refine Ka2 ?_)
                    all_goals refine K0d ?_;intro w hw;first|exact⟨rfl,hw.ret (by repeat (first|exact List.Sublist.refl _|apply List.Sublist.cons)) (aT.bA λ f hf=>hf) (List.Sublist.refl _)⟩|(exfalso;omega)|(exfalso;simp_all)
                  ·try exact nv c59
                   all_goals try (first|contradiction|(exfalso;omega))
                   all_goals (refine Kb3 ?_)
                   all_goals
                   refine aX (λ c59=>?_) (λ c59=>?_)
                   ·try exact nv c59
                    all_goals try (first|contradiction|(exfalso;omega))
                    all_goals (refine Kc7 ?_)
                    all_goals
                     refine aX (λ c64=>?_) (λ c64=>?_)
                     ·try exact nv c64
                      all_goals try (first|contradiction|(exfalso;omega))
                      all_goals refine cC ?_
                      all_goals
                      refine K0d ?_;intro w hw;first|exact⟨rfl,hw.ret (by repeat (first|exact List.Sublist.refl _|apply List.Sublist.cons)) (aT.bA λ f hf=>hf) (List.Sublist.refl _)⟩|(exfalso;omega)|(exfalso;simp_all)
                     ·try exact nv c64
                      all_goals try (first|contradiction|(exfalso;omega))
                      all_goals (refine Ka2 ?_)
                      all_goals
                      refine K0d ?_;intro w hw;first|exact⟨rfl,hw.ret (by repeat (first|exact List.Sublist.refl _|apply List.Sublist.cons)) (aT.bA λ f hf=>hf) (List.Sublist.refl _)⟩|(exfalso;omega)|(exfalso;simp_all)
                   ·try exact nv c59
                    all_goals try (first|contradiction|(exfalso;omega))
                    all_goals (refine Ka2 ?_)
                    all_goals refine K0d ?_;intro w hw;first|exact⟨rfl,hw.ret (by repeat (first|exact List.Sublist.refl _|apply List.Sublist.cons)) (aT.bA λ f hf=>hf) (List.Sublist.refl _)⟩|(exfalso;omega)|(exfalso;simp_all)
               ·all_goals try (first|contradiction|(exfalso;omega))
                all_goals (refine Kb3 ?_)
                all_goals
                refine aX (λ c49=>?_) (λ c49=>?_)
                ·all_goals try (first|contradiction|(exfalso;omega))
                 all_goals (refine gP ?_;refine aC ?_)
                 all_goals
                  refine aX (λ c58=>?_) (λ c58=>?_)
                  ·all_goals try (first|contradiction|(exfalso;omega))
                   all_goals refine cC ?_
                   all_goals
                   refine K0d ?_;intro w hw;first|exact⟨rfl,hw.ret (by repeat (first|exact List.Sublist.refl _|apply List.Sublist.cons)) (aT.bA λ f hf=>hf) (List.Sublist.refl _)⟩|(exfalso;omega)|(exfalso;simp_all)
                  ·all_goals try (first|contradiction|(exfalso;omega))
                   all_goals (refine Ka2 ?_)
                   all_goals
                   refine K0d ?_;intro w hw;first|exact⟨rfl,hw.ret (by repeat (first|exact List.Sublist.refl _|apply List.Sublist.cons)) (aT.bA λ f hf=>hf) (List.Sublist.refl _)⟩|(exfalso;omega)|(exfalso;simp_all)
                ·all_goals try (first|contradiction|(exfalso;omega))
                 all_goals (refine Kb1 ?_)
                 all_goals
                  refine aX (λ c59=>?_) (λ c59=>?_)
                  ·all_goals try (first|contradiction|(exfalso;omega))
                   all_goals refine bD ?_
                   all_goals
                   refine aX (λ c59=>?_) (λ c59=>?_)
                   ·try exact nv c59
                    all_goals try (first|contradiction|(exfalso;omega))
                    all_goals (refine Kc7 ?_)
                    all_goals
                     refine aX (λ c64=>?_) (λ c64=>?_)
                     ·try exact nv c64
                      all_goals try (first|contradiction|(exfalso;omega))
                      all_goals refine cC ?_
                      all_goals
                      refine K0d ?_;intro w hw;first|exact⟨rfl,hw.ret (by repeat (first|exact List.Sublist.refl _|apply List.Sublist.cons)) (aT.bA λ f hf=>hf) (List.Sublist.refl _)⟩|(exfalso;omega)|(exfalso;simp_all)
                     ·try exact nv c64
                      all_goals try (first|contradiction|(exfalso;omega))
                      all_goals (refine Ka2 ?_)
                      all_goals
                      refine K0d ?_;intro w hw;first|exact⟨rfl,hw.ret (by repeat (first|exact List.Sublist.refl _|apply List.Sublist.cons)) (aT.bA λ f hf=>hf) (List.Sublist.refl _)⟩|(exfalso;omega)|(exfalso;simp_all)
                   ·try exact nv c59
                    all_goals try (first|contradiction|(exfalso;omega))
                    all_goals (refine Ka2 ?_)
                    all_goals refine K0d ?_;intro w hw;first|exact⟨rfl,hw.ret (by repeat (first|exact List.Sublist.refl _|apply List.Sublist.cons)) (aT.bA λ f hf=>hf) (List.Sublist.refl _)⟩|(exfalso;omega)|(exfalso;simp_all)
                  ·all_goals try (first|contradiction|(exfalso;omega))
                   all_goals (refine Kb3 ?_)
                   all_goals
                   refine aX (λ c59=>?_) (λ c59=>?_)
                   ·all_goals try (first|contradiction|(exfalso;omega))
                    all_goals (refine Kc7 ?_)
                    all_goals
                     refine aX (λ c64=>?_) (λ c64=>?_)
                     ·try exact nv c64
                      all_goals try (first|contradiction|(exfalso;omega))
                      all_goals refine cC ?_
                      all_goals
                      refine K0d ?_;intro w hw;first|exact⟨rfl,hw.ret (by repeat (first|exact List.Sublist.refl _|apply List.Sublist.cons)) (aT.bA λ f hf=>hf) (List.Sublist.refl _)⟩|(exfalso;omega)|(exfalso;simp_all)
                     ·try exact nv c64
                      all_goals try (first|contradiction|(exfalso;omega))
                      all_goals (refine Ka2 ?_)
                      all_goals
                      refine K0d ?_;intro w hw;first|exact⟨rfl,hw.ret (by repeat (first|exact List.Sublist.refl _|apply List.Sublist.cons)) (aT.bA λ f hf=>hf) (List.Sublist.refl _)⟩|(exfalso;omega)|(exfalso;simp_all)
                   ·all_goals try (first|contradiction|(exfalso;omega))
                    all_goals (refine Ka2 ?_)
                    all_goals refine K0d ?_;intro w hw;first|exact⟨rfl,hw.ret (by repeat (first|exact List.Sublist.refl _|apply List.Sublist.cons)) (aT.bA λ f hf=>hf) (List.Sublist.refl _)⟩|(exfalso;omega)|(exfalso;simp_all)
end
end Go.Proofs.YthblobahelfefaaGreatDoor
