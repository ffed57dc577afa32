/- Whatever the 32 bytes and the number are, the law TagBegins returns true and its arguments read as before, where the table of constants is laid as the program's text lays it. -/
import Derived.Test.YtbofkfgfnaigkaaGreatDoorRows
import Derived.Test.YtbofkfgfnaigkaaGreatDoorTie
import Derived.Test.YtbofkfgfnaigkaaGreatDoorCards
import Derived.Test.YtbofkfgfnaigkaaGreatDoorC15
import Derived.Test.YtbofkfgfnaigkaaGreatDoorC7
import Derived.Test.YtbofkfgfnaigkaaGreatDoorL0
set_option linter.unusedSimpArgs false
set_option linter.unusedVariables false
set_option maxRecDepth 100000
namespace Go.Proofs.YtbofkfgfnaigkaaGreatDoor
open Go.ChangeShapes Go.WideShapes Go.RowKit Go.Av
theorem own:ownKnob Tryz.prog.godebug=none:=by kernel_rfl
theorem zYl:laidOutB Tryz.prog=true:=by kernel_rfl
theorem gK:Tryz.prog.globalNamed "avouch/keccak.constants"=some 0:=by kernel_rfl
abbrev zEc:List (String × DataW Unit):=[("avouch/keccak.constants",Rows.laid_avouch_keccak_constants)]
theorem zKz (os : Os) (args : Array Value) : laidMetH Tryz.prog zEc ((World.laidAll Tryz.prog os zEc).forCall (fun _ _ => 0) ⟨#[], args, []⟩).memory := by
  rw [Go.MakeChecks.laidMetH_plain _ _ _ (by kernel_rfl)]
  exact laidMet_laidAll args (by kernel_rfl) (by kernel_rfl)
def rcI:List Int:=[1,32898,9223372036854808714,9223372039002292224,32907,2147483649,9223372039002292353,9223372036854808585,138,136,2147516425,2147483658,2147516555,9223372036854775947,9223372036854808713,9223372036854808579,9223372036854808578,9223372036854775936,32778,9223372039002259466,9223372039002292353,9223372036854808704,2147483649,9223372039002292232]
theorem zNS {W:World} (h:laidMetH Tryz.prog zEc W):∀ g cs,Av.ctx.glob g=some cs→zfX (st0 W) g 0 cs:=by
  intro g cs hg
  rw [Go.MakeChecks.laidMetH_plain _ _ _ (by kernel_rfl)] at h
  have h1:zfX (st0 W) 0 0 (rcI.map fun z=>.int .u64 z):=zNv (t:=212) (e:=29) (n:=24) gK (by kernel_rfl) (by kernel_rfl) (by kernel_rfl) (by kernel_rfl) (by kernel_rfl) h (List.mem_singleton.2 rfl)
  match g,hg with
  | 0,hg=>obtain rfl:=Option.some.inj hg;exact h1
  | g+1,hg=>simp [Av.ctx,zSZ] at hg
theorem lifted (os:Os) (started:os.Started) (H:Type) (enc:TypeId × Value→H):
    ReturnsInHanded {} Tryz.checked os 3 .any (fun w args => (Rows.tagBeginsSpec.pre enc Tryz.prog Tryz.f3 [] false w args ∧ laidMetH Tryz.prog zEc w) ∧ sizedMet enc Tryz.prog Tryz.f3 (OpenSpec.ofChange Rows.tagBeginsSpec) false w args)
      (Rows.tagBeginsSpec.post enc Tryz.prog Tryz.f3 false true false false):=by
  refine returnsInHanded_of_change_and (C := Tryz.checked) (X := fun w _ => laidMetH Tryz.prog zEc w) (fun _ _ _ hh h => h.of_heap hh) own started (by kernel_rfl) Tryz.func3
    (ChangeSpec.witness_shaped (enc:=enc) (C:=Tryz.checked) (os:=os) (X:=fun w _=>laidMetH Tryz.prog zEc w) false (World.laidAll Tryz.prog os zEc) #[.agg (Array.replicate 32 (.int .u8 0)),.int .u8 0] 8 (World.laidAll_os _ _ _) (World.shaped_of_RefB (by kernel_rfl) (by kernel_rfl)) (by kernel_rfl) (by kernel_rfl) (by kernel_rfl) (zKz os _)) ?_
  intro W base args ds gs before hval0 hW _ _ hL _
  have hval:∀ (j:Nat) t v,Tryz.f3.params[j]?=some t→args[j]?=some v→Value.okWide Tryz.prog W .any base t v:=hval0
  have hW':=hW
  obtain ⟨p,q,hA0,hV,rfl,hfz,hnd⟩:=hW
  have hA:DataW.TrodAll enc Tryz.prog W 0 (fun _=>true) true Tryz.f3.params.toList args.toList ds p:=hA0
  rw [Tryz.params3] at hA hval
  obtain ⟨v0,vs0,d0,ds0,p0,q0,hargs,rfl,rfl,h0,r0⟩:=trodAll_cons hA
  obtain ⟨v1,vs1,d1,ds1,p1,q1,rfl,rfl,rfl,h1,r1⟩:=trodAll_cons r0
  obtain ⟨rfl,rfl,rfl⟩:=trodAll_nil r1
  obtain rfl:args=#[v0,v1]:=by cases args;simp_all
  obtain ⟨t,ht,hw,e0⟩:=open_ints (d:=6) (k:=.u8) (n:=32) (by kernel_rfl) (by decide) (hval 0 _ v0 rfl rfl) h0
  obtain ⟨m,hm,e1⟩:=zP8 (d:=6) (k:=.u8) (by kernel_rfl) (by kernel_rfl) (hval 1 _ v1 rfl rfl) h1
  have hcall:=zOo zTq (W:=W) (f:=Av.zdk) (args:=[.agg (cI .u8 t),.int .u8 m]) (cargs:=#[v0,v1]) rfl (zB4 ⟨0,0,0,0⟩ ⟨[],[]⟩ t ht (zFH fun x hx=>wf_u8 (hw x hx)) m (wf_u8 hm)) (zNS hL) (.cons _ _ _ _ e0 (.cons _ _ _ _ e1 .nil))
  refine hcall.mono fun e W' ⟨he,hb⟩=>?_
  exact ⟨_,he,zKe (t:=4) zYl (of_decide_eq_true (by kernel_rfl)) rfl hW' hb (by kernel_rfl) (by kernel_rfl) ⟨rfl,rfl,rfl⟩⟩
theorem zwH:Rows.TagBeginsSaid:=
  OpenClaim.holds_of_wide 3 Tryz.f3 rfl rfl rfl rfl rfl rfl rfl ⟨rfl, rfl, rfl, rfl, rfl⟩ rfl rfl rfl rfl rfl (by kernel_rfl) Tryz.func3 (by kernel_rfl)
    (of_decide_eq_true (by kernel_rfl)) (by unfold Func.isWrapper;first | (rw [if_pos (by decide +kernel)];kernel_rfl) | (rw [if_neg (by decide +kernel)];exact ⟨rfl,rfl⟩))
    (fun os started H enc _=>lifted os started H enc)
theorem tagBegins_card:Rows.TagBeginsCardSaid:=
  Claim7.holds_tied_plain_at .later [] [.data] true (true,"06aac7357faa6b5ddfe907d727d00737a875ce643022fa3330f3d1db0a21f8dc") false
    zwH (fun _ h=>by cases h) (by kernel_rfl) (fun _ h=>by cases h) tagBegins_row_tie rfl ⟨rfl,rfl⟩ (by kernel_rfl) rfl
    (fun f fn hf hfn => by
      obtain rfl:f=3:=Option.some.inj ((show Tryz.prog.funcNamed "avouch/avouchlaw14.TagBegins"=some 3 by kernel_rfl).symm.trans hf) |>.symm
      obtain rfl:fn=Tryz.f3:=(Option.some.inj (Tryz.func3.symm.trans hfn)).symm
      exact ⟨by kernel_rfl, fun j t ht => by
        rw [Tryz.params3] at ht
        have h3:t=22∨t=5:=by
          rcases j with _ | _ | j
          · left;simpa using ht.symm
          · right;simpa using ht.symm
          · simp at ht
        rcases h3 with rfl | rfl
        · exact (show Tryz.prog.wantsStandIn 22=false by kernel_rfl)
        · exact (show Tryz.prog.wantsStandIn 5=false by kernel_rfl)⟩)
    (by kernel_rfl)
#print axioms tagBegins_card
end Go.Proofs.YtbofkfgfnaigkaaGreatDoor
