/- The numbers of the error, the kinds and the limits of frames are the document's, and the calls at the head answer what it fixes: with no condition. -/
import Derived.Test.YtphakdfholkbdaaPFrax16
namespace Go.Proofs.Ytphakdfholkbdaa.Pure
open Go.RowKit Go.Proofs.Ytphakdfholkbdaa.PFra Go.Proofs.YtphakdfholkbdaaW.PrintWords Go.Proofs.YtphakdfholkbdaaW.PrintLast

/-- ∃ k, wigwaglaw05_FrameNames.f k  = some true
What it reaches (each with k first where it has rounds; `.mono`: more rounds tell the same; `.l0`, ..: its loops, with `.mono_l`): frame_fields.f, frame_spans.f, frame_Check.f, varint_Size.f, varint_Put.f, frame_numbers.f, api_Span_25.f, frame_Encode.f, frame_needs.f, api_Span_55.f, api_Span_58.f, api_Span_57.f, api_Span_56.f, api_Span_52.f, frame_reader_spans.f, frame_reader_frame.f, frame_Parse.f, frame_All.f, wigwaglaw05_awake.f, wigwaglaw05_FrameNames.f -/
theorem FrameNames : wigwaglaw05_FrameNames.Pure := by
  exact ⟨60, by decide +kernel⟩

end Go.Proofs.Ytphakdfholkbdaa.Pure
