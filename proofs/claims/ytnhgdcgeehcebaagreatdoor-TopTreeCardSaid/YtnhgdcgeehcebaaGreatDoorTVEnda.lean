/-
  A part of the closing text.
-/
import Derived.Test.YtnhgdcgeehcebaaGreatDoorTVW
import Derived.Test.YtnhgdcgeehcebaaGreatDoorXGoes
import Derived.Test.YtnhgdcgeehcebaaGreatDoorCards
import Derived.Test.YtnhgdcgeehcebaaGreatDoorTie
import Derived.WalkKit
import Derived.ProofKit
import Derived.OpenShut
import Derived.ShutString
import Derived.ChangeOld
import Derived.Below
import Derived.Deep.DeepHandedRow
import Derived.Lib.LaidTab
set_option linter.unusedVariables false
namespace Go.Proofs.YtnhgdcgeehcebaaGreatDoor.topTree
open Go.ChangeShapes Go.WideShapes Go.ChangeAt Go.RowKit
open Go.ChangeMaps (open_string shut_string)
theorem own:ownKnob Tryz.prog.godebug=none:=by as_aux_lemma=>kernel_rfl
set_option maxRecDepth 100000 in
theorem contract (H:Type) (enc:TypeId×Value→H) (W:World) (base:Nat) (args:Array Value) (ds gs:List (DataW H)) (before:List MemPlace)
    (hval:∀ (j:Nat) t v,Tryz.f3.params[j]? = some t→args[j]? = some v→Value.okWide Tryz.prog W .any base t v)
    (hW:DataW.Whole enc Tryz.prog Tryz.f3.params.toList Rows.topTreeSpec.vars false W args.toList ds gs before) (hL:laidMetH Tryz.prog Rows.topTreeRow.laid W) :
    Calls Tryz.prog 3 args W fun e W'=>∃ v,e = .returned v∧Rows.topTreeSpec.post enc Tryz.prog Tryz.f3 false true false false W args v W':=by
  have hW':=hW
  obtain ⟨p,q,hA0,hV,rfl,hfz,hnd⟩:=hW
  have hA:DataW.TrodAll enc Tryz.prog W 0 (fun _=>true) true Tryz.f3.params.toList args.toList ds p:=hA0
  rw [Tryz.params3] at hA hval
  obtain ⟨v0,vs0,d0,ds0,p0,q0,hargs,rfl,rfl,h0,r0⟩:=trodAll_cons hA
  obtain ⟨rfl,rfl,rfl⟩:=trodAll_nil r0
  obtain rfl:args=#[v0]:=by cases args;simp_all
  obtain ⟨rfl,rfl⟩:=trodVars_none hV
  obtain ⟨a0,rfl,rfl,rfl,w0⟩:=open_int Tryz.underlying3 (hval 0 3 v0 rfl rfl) h0
  clear hA0
  refine ((fun a0 w0 W _=>tv.walk a0 W) a0 w0 W hL).mono fun e W' ⟨he,bel⟩=>?_
  subst he
  exact ⟨_,rfl,_,_,_,[],_,[],hW',trodAll_mk1 (shut_bool Tryz.underlying4 _),(trodAll_cons_mk (shut_int Tryz.underlying3 w0) trodAll_mk0),rfl,bel.frame _,fun h=>by cases h⟩
end Go.Proofs.YtnhgdcgeehcebaaGreatDoor.topTree
